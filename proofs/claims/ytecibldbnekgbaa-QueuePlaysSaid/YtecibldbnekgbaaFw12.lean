import Derived.Test.YtecibldbnekgbaaFw11
namespace Go.Proofs.Ytecibldbnekgbaa.Fw
open Go
set_option linter.unusedVariables false
set_option linter.unusedSimpArgs false

/- Parts looked up by their blocks: the search is the instances'. -/
section
variable {F F' F1 : List Atom} {A B : Atom} {b g : Nat} {o o' : Obj}
class BlkIn (F : List Atom) (b : Nat) (o : outParam Obj) : Prop where
  mem : Blk b o ∈ F
instance (priority := 2000) blkIn_here : BlkIn (Blk b o :: F) b o := ⟨List.mem_cons_self ..⟩
instance blkIn_there [h : BlkIn F b o] : BlkIn (A :: F) b o := ⟨List.mem_cons_of_mem _ h.mem⟩
class BlkSet (F : List Atom) (b : Nat) (o' : Obj) (F' : outParam (List Atom)) : Prop where
  set : ∃ i o, getO F i = some (Blk b o) ∧ setO F i (Blk b o') = some F'
instance (priority := 2000) blkSet_here : BlkSet (Blk b o :: F) b o' (Blk b o' :: F) := ⟨0, o, rfl, rfl⟩
instance blkSet_there [h : BlkSet F b o' F'] : BlkSet (A :: F) b o' (A :: F') := ⟨by
  obtain ⟨i, o, h1, h2⟩ := h.set
  exact ⟨i + 1, o, h1, by simp only [setO, h2]⟩⟩
class OwnIn (F : List Atom) (g : Nat) (E sz n cap : outParam Nat) (xs : outParam (List Value)) : Prop where
  mem : Own E sz (.slice (some ⟨g, 0, none⟩) n cap) n xs ∈ F
instance (priority := 2000) ownIn_here {E sz n cap : Nat} {xs : List Value} : OwnIn (Own E sz (.slice (some ⟨g, 0, none⟩) n cap) n xs :: F) g E sz n cap xs := ⟨List.mem_cons_self ..⟩
instance ownIn_there {E sz n cap : Nat} {xs : List Value} [h : OwnIn F g E sz n cap xs] : OwnIn (A :: F) g E sz n cap xs := ⟨List.mem_cons_of_mem _ h.mem⟩
class OwnSet (F : List Atom) (g : Nat) (xs' : List Value) (F' : outParam (List Atom)) : Prop where
  set : ∃ i E sz n cap xs, getO F i = some (Own E sz (.slice (some ⟨g, 0, none⟩) n cap) n xs) ∧ setO F i (Own E sz (.slice (some ⟨g, 0, none⟩) n cap) n xs') = some F'
/-- A row looked up, and turned. -/
class OwnTo (F : List Atom) (g : Nat) (E sz n cap : outParam Nat) (xs : outParam (List Value)) (xs' : List Value) (F' : outParam (List Atom)) : Prop where
  to : ∃ i, getO F i = some (Own E sz (.slice (some ⟨g, 0, none⟩) n cap) n xs) ∧ setO F i (Own E sz (.slice (some ⟨g, 0, none⟩) n cap) n xs') = some F'
instance (priority := 2000) ownTo_here {E sz n cap : Nat} {xs xs' : List Value} : OwnTo (Own E sz (.slice (some ⟨g, 0, none⟩) n cap) n xs :: F) g E sz n cap xs xs' (Own E sz (.slice (some ⟨g, 0, none⟩) n cap) n xs' :: F) := ⟨0, rfl, rfl⟩
instance ownTo_there {E sz n cap : Nat} {xs xs' : List Value} [h : OwnTo F g E sz n cap xs xs' F'] : OwnTo (A :: F) g E sz n cap xs xs' (A :: F') := ⟨by
  obtain ⟨i, h1, h2⟩ := h.to
  exact ⟨i + 1, h1, by simp only [setO, h2]⟩⟩
class FrontB (F : List Atom) (b : Nat) (B : outParam Atom) (F' : outParam (List Atom)) : Prop where
  perm : F.Perm (B :: F')
instance (priority := 2000) frontB_here : FrontB (Blk b o :: F) b (Blk b o) F := ⟨.refl _⟩
instance frontB_there [h : FrontB F b B F'] : FrontB (A :: F) b B (A :: F') := ⟨(h.perm.cons A).trans (.swap _ _ _)⟩
class FrontO (F : List Atom) (g : Nat) (B : outParam Atom) (F' : outParam (List Atom)) : Prop where
  perm : F.Perm (B :: F')
instance (priority := 2000) frontO_here {E sz n cap m : Nat} {xs : List Value} : FrontO (Own E sz (.slice (some ⟨g, 0, none⟩) n cap) m xs :: F) g (Own E sz (.slice (some ⟨g, 0, none⟩) n cap) m xs) F := ⟨.refl _⟩
instance frontO_there [h : FrontO F g B F'] : FrontO (A :: F) g B (A :: F') := ⟨(h.perm.cons A).trans (.swap _ _ _)⟩
class FrontV (F : List Atom) (v : Value) (B : outParam Atom) (F' : outParam (List Atom)) : Prop where
  perm : F.Perm (B :: F')
instance (priority := 2000) frontV_here {E sz m : Nat} {v : Value} {xs : List Value} : FrontV (Own E sz v m xs :: F) v (Own E sz v m xs) F := ⟨.refl _⟩
instance frontV_there {v : Value} [h : FrontV F v B F'] : FrontV (A :: F) v B (A :: F') := ⟨(h.perm.cons A).trans (.swap _ _ _)⟩
class Takes (F : List Atom) (A : Atom) (F1 : outParam (List Atom)) : Prop where
  perm : F.Perm (A :: F1)
instance (priority := 2000) takes_here : Takes (A :: F) A F := ⟨.refl _⟩
instance takes_there [h : Takes F A F1] : Takes (B :: F) A (B :: F1) := ⟨(h.perm.cons B).trans (.swap _ _ _)⟩
/-- These parts, of those. -/
class SPI (F F' : List Atom) : Prop where
  on : ∀ (G : List Atom) (w0 w : World), Holds w0 (G ++ F) w → Holds w0 (G ++ F') w
instance (priority := 3000) spi_refl : SPI F F := ⟨fun _ _ _ h => h⟩
instance (priority := 2000) spi_cons [t : Takes F A F1] [h : SPI F1 F'] : SPI F (A :: F') := ⟨fun G w0 w hw => by
  have h1 : Holds w0 ((G ++ [A]) ++ F1) w := hw.perm (by simpa using t.perm.append_left G)
  simpa using h.on (G ++ [A]) w0 w h1⟩
instance (priority := 100) spi_drop [h : SPI F F'] : SPI (A :: F) F' := ⟨fun G w0 w hw => h.on G w0 w (hw.sub (List.Sublist.append_left (List.sublist_cons_self A F) G))⟩
theorem SPI.holds [h : SPI F F'] {w0 w} (hw : Holds w0 F w) : Holds w0 F' w := h.on [] w0 w hw
end
theorem Gives.mki {w0 R v F F'} (h : R v F') [s : SPI F F'] : Gives w0 R (.returned v) F := ⟨v, F', rfl, h, fun w hw => s.holds hw⟩

section
variable {P : Program} {f : FuncId} {w0 : World} {K : Post} {n : Nat} {d : List Deferred} {ops : Array Oper} {rest : List Oper} {k : List Item} {e : Env} {F : List Atom}
variable {ty : TypeId} {pos : String} {aft : Array Edge}
theorem g_againi {e' : Env} {F' : List Atom} (h : G P f w0 K n d k e' F') (hs : Sub e e') [s : SPI F F'] : G P f w0 K n d k e F := g_sub hs (g_heap (fun w hw => s.holds hw) h)
theorem l_frontb (b : Nat) {B F'} [h : FrontB F b B F'] (hk : GL P f w0 K n d ops rest k e (B :: F')) : GL P f w0 K n d ops rest k e F := gl_heap (fun w hw => hw.perm h.perm) hk
theorem l_fronto (g : Nat) {B F'} [h : FrontO F g B F'] (hk : GL P f w0 K n d ops rest k e (B :: F')) : GL P f w0 K n d ops rest k e F := gl_heap (fun w hw => hw.perm h.perm) hk
theorem l_frontv (v : Value) {B F'} [h : FrontV F v B F'] (hk : GL P f w0 K n d ops rest k e (B :: F')) : GL P f w0 K n d ops rest k e F := gl_heap (fun w hw => hw.perm h.perm) hk
theorem g_frontb (b : Nat) {B F'} [h : FrontB F b B F'] (hk : G P f w0 K n d k e (B :: F')) : G P f w0 K n d k e F := g_heap (fun w hw => hw.perm h.perm) hk
theorem g_fronto (g : Nat) {B F'} [h : FrontO F g B F'] (hk : G P f w0 K n d k e (B :: F')) : G P f w0 K n d k e F := g_heap (fun w hw => hw.perm h.perm) hk
theorem gp_frontb (b : Nat) {D A : List Nat} {B F'} [h : FrontB F b B F'] (hk : GP P f w0 K n d ops k D A e (B :: F')) : GP P f w0 K n d ops k D A e F := fun hreg hac hPA hp => by
  intro X hX fuel listed a w h1 h2 h3 h4 hw
  exact hk hreg hac hPA (hp.perm h.perm) X hX fuel listed a w h1 h2 h3 h4 (hw.perm h.perm)
theorem gp_fronto (g : Nat) {D A : List Nat} {B F'} [h : FrontO F g B F'] (hk : GP P f w0 K n d ops k D A e (B :: F')) : GP P f w0 K n d ops k D A e F := fun hreg hac hPA hp => by
  intro X hX fuel listed a w h1 h2 h3 h4 hw
  exact hk hreg hac hPA (hp.perm h.perm) X hX fuel listed a w h1 h2 h3 h4 (hw.perm h.perm)
theorem q_ld {t x b o T v E fr} {c : List Value} (hA : ∀ w, (isAgg T).run P w = .ok false w) (hx : evO e x = some (.pointer (some ⟨b, o, none⟩)))
    [hb : BlkIn F b (.cells c.toArray E fr)] (hv : c[o]? = some v) : QV P w0 (.mk (some t) (.load T x) ty pos aft none) e F v := q_load hA hx (Has.mem hb.mem) hv
theorem l_ld {t x b o T v E fr} {c : List Value} (ht : Nat.ble (t + 1) n = true) (hA : ∀ w, (isAgg T).run P w = .ok false w) (hx : evO e x = some (.pointer (some ⟨b, o, none⟩)))
    [hb : BlkIn F b (.cells c.toArray E fr)] (hv : c[o]? = some v) (hk : GL P f w0 K n d ops rest k ((t, v) :: e) F) : GL P f w0 K n d ops (.mk (some t) (.load T x) ty pos aft none :: rest) k e F :=
  l_load ht hA hx (Has.mem hb.mem) hv hk
theorem q_lds {t x b o T sz E fr} {c l : List Value} (hA : ∀ w, (isAgg T).run P w = .ok true w) (hS : ∀ w, (sizeOf T).run P w = .ok sz w) (hx : evO e x = some (.pointer (some ⟨b, o, none⟩)))
    [hb : BlkIn F b (.cells c.toArray E fr)] (hv : takeO c o sz = some l) : QV P w0 (.mk (some t) (.load T x) ty pos aft none) e F (.agg l.toArray) := q_loads hA hS hx (Has.mem hb.mem) hv
theorem l_lds {t x b o T sz E fr} {c l : List Value} (ht : Nat.ble (t + 1) n = true) (hA : ∀ w, (isAgg T).run P w = .ok true w) (hS : ∀ w, (sizeOf T).run P w = .ok sz w) (hx : evO e x = some (.pointer (some ⟨b, o, none⟩)))
    [hb : BlkIn F b (.cells c.toArray E fr)] (hv : takeO c o sz = some l) (hk : GL P f w0 K n d ops rest k ((t, .agg l.toArray) :: e) F) : GL P f w0 K n d ops (.mk (some t) (.load T x) ty pos aft none :: rest) k e F :=
  l_loads ht hA hS hx (Has.mem hb.mem) hv hk
theorem q_ldw {t x g j T E m cap W} {kd : IntKind} (hA : ∀ w, (isAgg T).run P w = .ok false w) (hx : evO e x = some (.pointer (some ⟨g, 0 + j * 1, none⟩)))
    [hb : OwnIn F g E 1 m cap (ints kd W)] (hj : j < W.length) : QV P w0 (.mk (some t) (.load T x) ty pos aft none) e F (.int kd (W.getD j 0)) := q_loadc hA hx (word_at hb.mem hj)
theorem l_ldw {t x g j T E m cap W} {kd : IntKind} (ht : Nat.ble (t + 1) n = true) (hA : ∀ w, (isAgg T).run P w = .ok false w) (hx : evO e x = some (.pointer (some ⟨g, 0 + j * 1, none⟩)))
    [hb : OwnIn F g E 1 m cap (ints kd W)] (hj : j < W.length) (hk : GL P f w0 K n d ops rest k ((t, .int kd (W.getD j 0)) :: e) F) : GL P f w0 K n d ops (.mk (some t) (.load T x) ty pos aft none :: rest) k e F :=
  l_loadc ht hA hx (word_at hb.mem hj) hk
theorem blk_same {F : List Atom} {w : World} {b : Nat} {o o2 : Obj} (h : Holds w0 F w) (h1 : Blk b o ∈ F) {i : Nat} (h2 : getO F i = some (Blk b o2)) : o2 = o := by
  have a := h.ok _ h1
  have c := h.ok _ (mem_getO i h2)
  exact Option.some.inj (c.symm.trans a)
theorem getO_map {F : List Atom} {A A2 : Atom} {i : Nat} (h : getO F i = some A) (he : A = A2) : getO F i = some A2 := by rw [h, he]
theorem l_st {x y b o T v E F'} {c c' : List Value} (hS : ∀ w, (sizeOf T).run P w = .ok 1 w) (hx : evO e x = some (.pointer (some ⟨b, o, none⟩))) (hy : evO e y = some v) (hs : scalar v = true)
    [hb : BlkIn F b (.cells c.toArray E (0, 0))] (hc : setO c o v = some c') [hF : BlkSet F b (.cells c'.toArray E (0, 0)) F'] (hk : GL P f w0 K n d ops rest k e F') : GL P f w0 K n d ops (.mk none (.store T x y) ty pos aft none :: rest) k e F := by
  obtain ⟨i, o2, h1, h2⟩ := hF.set
  intro a w ha hw
  exact l_store i hS hx hy hs (getO_map h1 (by rw [blk_same hw hb.mem h1])) hc h2 hk a w ha hw
theorem l_sts {x y b o T sz E F'} {c c' l : List Value} (hS : ∀ w, (sizeOf T).run P w = .ok sz w) (hx : evO e x = some (.pointer (some ⟨b, o, none⟩))) (hy : evO e y = some (.agg l.toArray)) (hl : l.length = sz) (hs : l.all scalar = true)
    [hb : BlkIn F b (.cells c.toArray E (0, 0))] (hc : setsO c o l = some c') [hF : BlkSet F b (.cells c'.toArray E (0, 0)) F'] (hk : GL P f w0 K n d ops rest k e F') : GL P f w0 K n d ops (.mk none (.store T x y) ty pos aft none :: rest) k e F := by
  obtain ⟨i, o2, h1, h2⟩ := hF.set
  intro a w ha hw
  exact l_stores i hS hx hy hl hs (getO_map h1 (by rw [blk_same hw hb.mem h1])) hc h2 hk a w ha hw
theorem l_stw {x y g j T u E m cap F'} {kd : IntKind} {W : List Int} (hS : ∀ w, (sizeOf T).run P w = .ok 1 w) (hx : evO e x = some (.pointer (some ⟨g, 0 + j * 1, none⟩))) (hy : evO e y = some (.int kd u))
    [hF : OwnTo F g E 1 m cap (ints kd W) (ints kd (W.set j u)) F'] (hj : j < W.length) (hk : GL P f w0 K n d ops rest k e F') : GL P f w0 K n d ops (.mk none (.store T x y) ty pos aft none :: rest) k e F := by
  obtain ⟨i, h1, h2⟩ := hF.to
  exact l_storew i hS hx hy h1 hj h2 hk
theorem does_st {x y b o T v E F'} {c c' : List Value} (hS : ∀ w, (sizeOf T).run P w = .ok 1 w) (hx : evO e x = some (.pointer (some ⟨b, o, none⟩))) (hy : evO e y = some v) (hs : scalar v = true)
    [hb : BlkIn F b (.cells c.toArray E (0, 0))] (hc : setO c o v = some c') [hF : BlkSet F b (.cells c'.toArray E (0, 0)) F'] : Does P w0 (.mk none (.store T x y) ty pos aft none) e F (fun v2 F2 => v2 = undef ∧ F2 = F') := by
  obtain ⟨i, o2, h1, h2⟩ := hF.set
  intro ρ w ha hw
  exact does_store i hS hx hy hs (getO_map h1 (by rw [blk_same hw hb.mem h1])) hc h2 ρ w ha hw
theorem does_sts {x y b o T sz E F'} {c c' l : List Value} (hS : ∀ w, (sizeOf T).run P w = .ok sz w) (hx : evO e x = some (.pointer (some ⟨b, o, none⟩))) (hy : evO e y = some (.agg l.toArray)) (hl : l.length = sz) (hs : l.all scalar = true)
    [hb : BlkIn F b (.cells c.toArray E (0, 0))] (hc : setsO c o l = some c') [hF : BlkSet F b (.cells c'.toArray E (0, 0)) F'] : Does P w0 (.mk none (.store T x y) ty pos aft none) e F (fun v2 F2 => v2 = undef ∧ F2 = F') := by
  obtain ⟨i, o2, h1, h2⟩ := hF.set
  intro ρ w ha hw
  exact does_stores i hS hx hy hl hs (getO_map h1 (by rw [blk_same hw hb.mem h1])) hc h2 ρ w ha hw
theorem ResV.ci {P w0 e F a T b o v rs vs E fr} {c : List Value} (h1 : lk e a = some (.pointer (some ⟨b, o, none⟩))) (h2 : ∀ w, (isAgg T).run P w = .ok false w) [hb : BlkIn F b (.cells c.toArray E fr)] (hv : c[o]? = some v) (h : ResV P w0 e F rs vs) :
    ResV P w0 e F (.cell a T :: rs) (v :: vs) := .cellb h1 h2 (Has.mem hb.mem) hv h
theorem ResV.cis {P w0 e F a T b o sz rs vs E fr} {c l : List Value} (h1 : lk e a = some (.pointer (some ⟨b, o, none⟩))) (h2 : ∀ w, (isAgg T).run P w = .ok true w) (h3 : ∀ w, (sizeOf T).run P w = .ok sz w) [hb : BlkIn F b (.cells c.toArray E fr)] (hl : takeO c o sz = some l) (h : ResV P w0 e F rs vs) :
    ResV P w0 e F (.cell a T :: rs) (.agg l.toArray :: vs) := .cellsb h1 h2 h3 (Has.mem hb.mem) hl h
end
end Go.Proofs.Ytecibldbnekgbaa.Fw
