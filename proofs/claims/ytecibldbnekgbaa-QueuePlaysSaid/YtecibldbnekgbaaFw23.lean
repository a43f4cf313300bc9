import Derived.Test.YtecibldbnekgbaaFw22
namespace Go.Proofs.Ytecibldbnekgbaa.Fw
open Go Go.Lib
set_option linter.unusedVariables false
set_option linter.unusedSimpArgs false

/- Steps whose answer is told as a slice, or as a number of one's own. -/
section
variable {P : Program} {f : FuncId} {w0 : World} {K : Post} {n : Nat} {d : List Deferred} {ops : Array Oper} {rest : List Oper} {k : List Item} {e : Env} {F : List Atom}
variable {ty : TypeId} {pos : String} {aft : Array Edge}
theorem q_andr {t x y a b r T T2} {kd : IntKind} {m : Nat} (hs : kd.signed = false) (hm : kd.bits = m) (hx : evO e x = some (.int kd a)) (hy : evO e y = some (.int kd b)) (hr : bAnd m a b = r) : QV P w0 (.mk (some t) (.binOp .and T x y T2) ty pos aft none) e F (.int kd r) := hr ▸ q_and hs hm hx hy
theorem q_orr {t x y a b r T T2} {kd : IntKind} {m : Nat} (hs : kd.signed = false) (hm : kd.bits = m) (hx : evO e x = some (.int kd a)) (hy : evO e y = some (.int kd b)) (hr : bOr m a b = r) : QV P w0 (.mk (some t) (.binOp .or T x y T2) ty pos aft none) e F (.int kd r) := hr ▸ q_or hs hm hx hy
theorem q_xorr {t x y a b r T T2} {kd : IntKind} {m : Nat} (hs : kd.signed = false) (hm : kd.bits = m) (hx : evO e x = some (.int kd a)) (hy : evO e y = some (.int kd b)) (hr : bXor m a b = r) : QV P w0 (.mk (some t) (.binOp .xor T x y T2) ty pos aft none) e F (.int kd r) := hr ▸ q_xor hs hm hx hy
theorem l_andr {t x y a b r T T2} {kd : IntKind} {m : Nat} (ht : Nat.ble (t + 1) n = true) (hs : kd.signed = false) (hm : kd.bits = m) (hx : evO e x = some (.int kd a)) (hy : evO e y = some (.int kd b)) (hr : bAnd m a b = r) (hk : GL P f w0 K n d ops rest k ((t, .int kd r) :: e) F) : GL P f w0 K n d ops (.mk (some t) (.binOp .and T x y T2) ty pos aft none :: rest) k e F := l_val ht (q_andr (t := t) (F := F) hs hm hx hy hr) hk
theorem l_orr {t x y a b r T T2} {kd : IntKind} {m : Nat} (ht : Nat.ble (t + 1) n = true) (hs : kd.signed = false) (hm : kd.bits = m) (hx : evO e x = some (.int kd a)) (hy : evO e y = some (.int kd b)) (hr : bOr m a b = r) (hk : GL P f w0 K n d ops rest k ((t, .int kd r) :: e) F) : GL P f w0 K n d ops (.mk (some t) (.binOp .or T x y T2) ty pos aft none :: rest) k e F := l_val ht (q_orr (t := t) (F := F) hs hm hx hy hr) hk
theorem l_xorr {t x y a b r T T2} {kd : IntKind} {m : Nat} (ht : Nat.ble (t + 1) n = true) (hs : kd.signed = false) (hm : kd.bits = m) (hx : evO e x = some (.int kd a)) (hy : evO e y = some (.int kd b)) (hr : bXor m a b = r) (hk : GL P f w0 K n d ops rest k ((t, .int kd r) :: e) F) : GL P f w0 K n d ops (.mk (some t) (.binOp .xor T x y T2) ty pos aft none :: rest) k e F := l_val ht (q_xorr (t := t) (F := F) hs hm hx hy hr) hk
theorem run_intAndS {P : Program} {w : World} (a b : Int) : (Op.intBits .and .i64 a b).run P w = .ok (.int .i64 (IntKind.i64.wrap (bAnd 64 a b))) w := by
  unfold Op.intBits; simp only; rfl
/-- Bits of a signed number that are cut out. -/
theorem q_ands {t x y a b r T T2} (hx : evO e x = some (.int .i64 a)) (hy : evO e y = some (.int .i64 b)) (hr : IntKind.i64.wrap (bAnd 64 a b) = r) : QV P w0 (.mk (some t) (.binOp .and T x y T2) ty pos aft none) e F (.int .i64 r) := by
  intro ρ w ha hw
  have h1 := run_intAndS (P := P) (w := w) a b
  rw [hr] at h1
  simp [execOp, ha _ _ hx, ha _ _ hy, eqGuard, binOp, go_sem] at h1 ⊢
  exact h1
theorem l_ands {t x y a b r T T2} (ht : Nat.ble (t + 1) n = true) (hx : evO e x = some (.int .i64 a)) (hy : evO e y = some (.int .i64 b)) (hr : IntKind.i64.wrap (bAnd 64 a b) = r) (hk : GL P f w0 K n d ops rest k ((t, .int .i64 r) :: e) F) : GL P f w0 K n d ops (.mk (some t) (.binOp .and T x y T2) ty pos aft none :: rest) k e F := l_val ht (q_ands (t := t) (F := F) hx hy hr) hk
theorem q_shlc {t x y a b r T T2} {kd k2 : IntKind} (C : Int) (hx : evO e x = some (.int kd a)) (hy : evO e y = some (.int k2 b)) (hb : 0 ≤ b) (hC : (2 : Int) ^ min b.toNat kd.bits = C) (hr : kd.wrap (a * C) = r) : QV P w0 (.mk (some t) (.binOp .shl T x y T2) ty pos aft none) e F (.int kd r) := q_shl hx hy hb (by rw [hC]; exact hr)
theorem q_shrc {t x y a b T T2} {kd k2 : IntKind} (C : Int) (hx : evO e x = some (.int kd a)) (hy : evO e y = some (.int k2 b)) (hb : 0 ≤ b) (hC : (2 : Int) ^ min b.toNat kd.bits = C) : QV P w0 (.mk (some t) (.binOp .shr T x y T2) ty pos aft none) e F (.int kd (a / C)) := q_shr hx hy hb (by rw [hC])
theorem l_shlc {t x y a b r T T2} {kd k2 : IntKind} (C : Int) (ht : Nat.ble (t + 1) n = true) (hx : evO e x = some (.int kd a)) (hy : evO e y = some (.int k2 b)) (hb : 0 ≤ b) (hC : (2 : Int) ^ min b.toNat kd.bits = C) (hr : kd.wrap (a * C) = r) (hk : GL P f w0 K n d ops rest k ((t, .int kd r) :: e) F) : GL P f w0 K n d ops (.mk (some t) (.binOp .shl T x y T2) ty pos aft none :: rest) k e F := l_val ht (q_shlc (t := t) (F := F) C hx hy hb hC hr) hk
theorem l_shrc {t x y a b T T2} {kd k2 : IntKind} (C : Int) (ht : Nat.ble (t + 1) n = true) (hx : evO e x = some (.int kd a)) (hy : evO e y = some (.int k2 b)) (hb : 0 ≤ b) (hC : (2 : Int) ^ min b.toNat kd.bits = C) (hk : GL P f w0 K n d ops rest k ((t, .int kd (a / C)) :: e) F) : GL P f w0 K n d ops (.mk (some t) (.binOp .shr T x y T2) ty pos aft none :: rest) k e F := l_val ht (q_shrc (t := t) (F := F) C hx hy hb hC) hk
theorem slice_of_own {w : World} {F : List Atom} {E sz v m xs} (hm : Own E sz v m xs ∈ F) (hw : Holds w0 F w) : ∃ a c, v = .slice a m c ∧ (m = 0 ∨ ∃ g, a = some ⟨g, 0, none⟩) ∧ (a = none → m = 0) := by
  rcases (own_cases hm w hw).2.2 with ⟨rfl, rfl⟩ | ⟨g, c, rfl, _⟩
  · exact ⟨_, _, rfl, .inl rfl, fun _ => rfl⟩
  · exact ⟨_, _, rfl, .inr ⟨g, rfl⟩, fun h => by cases h⟩
/-- An append of numbers: the answer as a slice. -/
theorem does_apps {t x y T E by_ m m2 m3 inf z v u} {F1 : Option Addr → Nat → List Atom} {kd : IntKind} {V W V3 : List Int} (i : Nat) (hT : P.underlying T = some (.slice E)) (hi : P.info? E = some inf) (hz : inf.zero = some z) (hsz : inf.size = 1) (hby : inf.bytes = by_) (hzs : z.cells.size = 1)
    (hx : evO e x = some v) (hy : evO e y = some u) (hF : getO F i = some (Own E 1 v m (ints kd V))) (hu : Reads w0 F u m2 1 (ints kd W)) (hb : (m + m2) * by_ ≤ 140737488355328) (h63 : m + m2 ≤ maxLen) (hm3 : m + m2 = m3) (hV3 : V ++ W = V3)
    (hset : ∀ a c, setO F i (Own E 1 (.slice a m3 c) m3 (ints kd V3)) = some (F1 a c)) :
    Does P w0 (.mk (some t) (.call ⟨.builtin .append, #[x, y], #[T, T]⟩) ty pos aft none) e F (fun v' F2 => ∃ a c, (m3 = 0 ∨ ∃ g, a = some ⟨g, 0, none⟩) ∧ (a = none → m3 = 0) ∧ v' = .slice a m3 c ∧ F2 = F1 a c) := by
  subst hm3 hV3
  have hlt : i < F.length := by
    have := getO_eq hF
    exact (List.getElem?_eq_some_iff.1 this).1
  intro ρ w ha hw
  rcases does_append (P := P) (w0 := w0) (ty := ty) (pos := pos) (aft := aft) (t := t) i hT hi hz hsz hby hzs rfl hx hy hF hu (ints_scalar _ _) hb h63 (fun v' => by rw [ints_append]; exact setO_of hlt) ρ w ha hw with ⟨v', w', F', hr, hw', hn, rfl⟩ | ⟨g, args, hr, hc⟩
  · have hmem : Own E 1 v' (m + m2) (ints kd (V ++ W)) ∈ F.set i (Own E 1 v' (m + m2) (ints kd (V ++ W))) := List.mem_set hlt _
    obtain ⟨a, c, rfl, h1, h2⟩ := slice_of_own hmem hw'
    have := (setO_eq (hset a c)).2
    exact .inl ⟨_, w', _, hr, by rw [← this] at hw'; exact hw', a, c, h1, h2, rfl, rfl⟩
  · refine .inr ⟨g, args, hr, hc.mono ?_⟩
    rintro en w' ⟨v', F', rfl, ⟨hn, rfl⟩, hw'⟩
    have hmem : Own E 1 v' (m + m2) (ints kd (V ++ W)) ∈ F.set i (Own E 1 v' (m + m2) (ints kd (V ++ W))) := List.mem_set hlt _
    obtain ⟨a, c, rfl, h1, h2⟩ := slice_of_own hmem hw'
    have := (setO_eq (hset a c)).2
    exact ⟨_, _, rfl, ⟨a, c, h1, h2, rfl, rfl⟩, by rw [← this] at hw'; exact hw'⟩
theorem l_does {t op} {Out : Value → List Atom → Prop} (ht : Nat.ble (t + 1) n = true) (h : Does P w0 (.mk (some t) op ty pos aft none) e F Out) (hk : ∀ v F2, Out v F2 → GL P f w0 K n d ops rest k ((t, v) :: e) F2) : GL P f w0 K n d ops (.mk (some t) op ty pos aft none :: rest) k e F := by
  intro a w ha hw
  show wpL _ _ _ _ _ _
  rcases h a.eval w ha.kn hw with ⟨v, w', F', hr, hw', ho⟩ | ⟨g, args, hr, hc⟩
  · rcases hr with hr | ⟨hr, rfl⟩ <;> simp only [wpL, Region.wanted, if_true, Oper.wp, hr, Oper.upon] <;> exact hk _ _ ho _ _ (ha.put t _ ht) hw'
  · simp only [wpL, Region.wanted, if_true, Oper.wp, hr, Oper.upon]
    refine hc.mono ?_
    rintro en w' ⟨v, F', rfl, ho, hw'⟩
    exact hk _ _ ho _ _ (ha.put t v ht) hw'
theorem does_app_str {t x y T S E m m3 inf v s} {F1 : Option Addr → Nat → List Atom} {V : List Int} (i : Nat) (hT : P.underlying T = some (.slice E)) (hS : P.underlying S = some .string) (hi : P.info? E = some inf) (hz : inf.zero = some (.int .u8 0)) (hsz : inf.size = 1) (hby : inf.bytes = 1)
    (hx : evO e x = some v) (hy : evO e y = some (.string s)) (hF : getO F i = some (Own E 1 v m (ints .u8 V))) (hb : m + s.size ≤ 140737488355328) (hm3 : m + s.size = m3)
    (hset : ∀ a c, setO F i (Own E 1 (.slice a m3 c) m3 (ints .u8 (V ++ bytesI s))) = some (F1 a c)) :
    Does P w0 (.mk (some t) (.call ⟨.builtin .append, #[x, y], #[T, S]⟩) ty pos aft none) e F (fun v' F2 => ∃ a c, (m3 = 0 ∨ ∃ g, a = some ⟨g, 0, none⟩) ∧ (a = none → m3 = 0) ∧ v' = .slice a m3 c ∧ F2 = F1 a c) := by
  subst hm3
  intro ρ w ha hw
  have hlt : i < F.length := by
    have := getO_eq hF
    exact (List.getElem?_eq_some_iff.1 this).1
  have hargs : (#[x, y] : Array Operand).map ρ = [v, .string s].toArray := kn_args (xs := [x, y]) ha (by simp [evL, hx, hy])
  obtain ⟨l', h1', _⟩ := perm_set (a' := Own E 1 v m (ints .u8 V)) (getO_eq hF)
  obtain ⟨v', w', hr, hw'⟩ := run_append_atom_str (P := P) (ty := ty) (s := s) hT hS hi hz hsz hby (hw.perm h1') hb (by simp only [maxLen]; omega)
  obtain ⟨a, c, rfl, g1, g2⟩ := slice_of_own (List.mem_cons_self ..) hw'
  obtain ⟨l2, h2, h3⟩ := perm_set (a' := Own E 1 (.slice a (m + s.size) c) (m + s.size) (ints .u8 V ++ strCells s)) (getO_eq hF)
  have he := (setO_eq (hset a c)).2
  refine .inl ⟨_, w', F1 a c, .inl (run_builtin ρ hargs (by simp only [builtin]; exact run_value hr)), ?_, a, c, g1, g2, rfl, rfl⟩
  rw [he, ← ints_append, ← strCells_ints]
  exact (hw'.perm ((((h1'.symm.trans h2).cons_inv).cons _))).perm h3.symm
end
end Go.Proofs.Ytecibldbnekgbaa.Fw
