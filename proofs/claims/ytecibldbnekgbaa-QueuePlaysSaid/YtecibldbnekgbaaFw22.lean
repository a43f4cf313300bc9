import Derived.Test.YtecibldbnekgbaaFw21
import Derived.Lib.AppendStr
import Derived.Laws.BytesArg
import Derived.Laws.Strings
namespace Go.Proofs.Ytecibldbnekgbaa.Fw
open Go Go.Lib
set_option linter.unusedVariables false
set_option linter.unusedSimpArgs false

/- Bits of whole numbers; texts. -/
def bAnd (m : Nat) (x y : Int) : Int := ((BitVec.ofInt m x &&& BitVec.ofInt m y).toNat : Int)
def bOr (m : Nat) (x y : Int) : Int := ((BitVec.ofInt m x ||| BitVec.ofInt m y).toNat : Int)
def bXor (m : Nat) (x y : Int) : Int := ((BitVec.ofInt m x ^^^ BitVec.ofInt m y).toNat : Int)
def bAndNot (m : Nat) (x y : Int) : Int := ((BitVec.ofInt m x &&& ~~~ BitVec.ofInt m y).toNat : Int)
theorem wrap_u_nat {k : IntKind} {m : Nat} (hs : k.signed = false) (hm : k.bits = m) (r : BitVec m) : k.wrap (r.toNat : Int) = r.toNat := by
  have := r.isLt
  subst hm
  cases k <;> simp [IntKind.signed] at hs <;> simp [IntKind.wrap, IntKind.signed, IntKind.bits] <;> (simp only [IntKind.bits] at this; omega)
theorem run_intAnd {P : Program} {w : World} {kd : IntKind} (hs : kd.signed = false) (a b : Int) : (Op.intBits .and kd a b).run P w = .ok (.int kd (bAnd kd.bits a b)) w := by
  unfold Op.intBits; simp only; rw [wrap_u_nat hs rfl]; rfl
theorem run_intOr {P : Program} {w : World} {kd : IntKind} (hs : kd.signed = false) (a b : Int) : (Op.intBits .or kd a b).run P w = .ok (.int kd (bOr kd.bits a b)) w := by
  unfold Op.intBits; simp only; rw [wrap_u_nat hs rfl]; rfl
theorem run_intXor {P : Program} {w : World} {kd : IntKind} (hs : kd.signed = false) (a b : Int) : (Op.intBits .xor kd a b).run P w = .ok (.int kd (bXor kd.bits a b)) w := by
  unfold Op.intBits; simp only; rw [wrap_u_nat hs rfl]; rfl
theorem run_intAndNot {P : Program} {w : World} {kd : IntKind} (hs : kd.signed = false) (a b : Int) : (Op.intBits .andNot kd a b).run P w = .ok (.int kd (bAndNot kd.bits a b)) w := by
  unfold Op.intBits; simp only; rw [wrap_u_nat hs rfl]; rfl
/-- A text's bytes. -/
def bytesI (s : ByteArray) : List Int := s.data.toList.map fun b => (b.toNat : Int)
theorem bytesI_length (s : ByteArray) : (bytesI s).length = s.size := by simp [bytesI]
theorem strCells_ints (s : ByteArray) : strCells s = ints .u8 (bytesI s) := by simp [strCells, ints, bytesI, Function.comp_def]
theorem run_append_atom_str {P : Program} {w0 w : World} {T S E n : Nat} {ty : TypeId} {v : Value} {inf : TypeInfo} {xs : List Value} {s : ByteArray} {F : List Atom}
    (hT : P.underlying T = some (.slice E)) (hS : P.underlying S = some .string) (hi : P.info? E = some inf) (hz : inf.zero = some (.int .u8 0)) (hsz : inf.size = 1) (hby : inf.bytes = 1)
    (h : Holds w0 (Own E 1 v n xs :: F) w) (hb : n + s.size ≤ 140737488355328) (h63 : n + s.size ≤ maxLen) :
    ∃ v' w', (Builtin.append_ #[T, S] ty #[v, .string s]).run P w = .ok v' w' ∧ Holds w0 (Own E 1 v' (n + s.size) (xs ++ strCells s) :: F) w' := by
  have hown := Own.owns (h.ok _ (List.mem_cons_self ..))
  obtain ⟨v', w', hr, ho, hg, hn⟩ := run_append_own_string (P := P) w 0 T S ty E inf hT hS hi hz hsz hby v n xs hown s h63 hb (Nat.zero_le _)
  refine ⟨v', w', hr, ?_⟩
  have hold : ∀ b, b < w.heap.size → ¬ (Own E 1 v n xs).fp b → w'.heap[b]? = w.heap[b]? := fun b hb hnb => hg.block b hb (fun e => hnb e.symm)
  have hfp : ∀ b, v'.ownBlock = some b → v.ownBlock = some b ∨ w.heap.size ≤ b := by
    intro b hb'
    rcases hown.2 with ⟨rfl, rfl⟩ | ⟨g, cap, cur, rfl, _, hgg, hnc, hcm, hcs, htake⟩
    · by_cases hm : s.size = 0
      · have : v' = .slice none 0 0 := hn.2 ⟨rfl, hm⟩
        subst this
        simp [Value.ownBlock] at hb'
      · have hr2 := run_append_nil_string (P := P) w T S ty E inf (.int .u8 0) hT hS hi hz s (by omega) (by simp only [maxLen] at h63; omega) (by rw [hby]; omega)
        rw [hr2] at hr
        injection hr with hv _
        subst hv
        simp only [Value.ownBlock, Option.some.injEq] at hb'
        exact .inr (by omega)
    · have hcs' : cur.size = cap := by simpa using hcs
      by_cases hroom : n + s.size ≤ cap
      · have hr2 := run_append_room_string (P := P) w T S ty E inf hT hS hi hsz g n cap cur hgg s hroom (by omega)
        rw [hr2] at hr
        injection hr with hv _
        subst hv
        exact .inl hb'
      · have holds : ∀ (j : Nat) u, xs[j]? = some u → w.cell? ((⟨g, 0, none⟩ : Addr).add j) = some u := hown.cells (g := g) rfl
        have hxl : xs.length = n * inf.size := by rw [hsz]; exact hown.1
        have hr2 := run_append_grow_string (P := P) w T S ty E inf (.int .u8 0) hT hS hi hz ⟨g, 0, none⟩ n cap xs hxl holds s (by omega) (by simp only [maxLen] at h63; omega) (by rw [hby]; exact growslice_fits (by omega) (by omega))
        rw [hr2] at hr
        injection hr with hv _
        subst hv
        simp only [Value.ownBlock, Option.some.injEq] at hb'
        exact .inr (by omega)
  exact h.turn hg.os hg.tape hg.output hg.size hold (Own.of_owns ho) hfp (fun b hb' => (ho.lt b hb').2)
section
variable {P : Program} {f : FuncId} {w0 : World} {K : Post} {n : Nat} {d : List Deferred} {ops : Array Oper} {rest : List Oper} {k : List Item} {e : Env} {F : List Atom}
variable {ty : TypeId} {pos : String} {aft : Array Edge}
theorem q_and {t x y a b T T2} {kd : IntKind} {m : Nat} (hs : kd.signed = false) (hm : kd.bits = m) (hx : evO e x = some (.int kd a)) (hy : evO e y = some (.int kd b)) : QV P w0 (.mk (some t) (.binOp .and T x y T2) ty pos aft none) e F (.int kd (bAnd m a b)) := by
  intro ρ w ha hw
  subst hm
  have h1 := run_intAnd (P := P) (w := w) hs a b
  simp [execOp, ha _ _ hx, ha _ _ hy, eqGuard, binOp, go_sem] at h1 ⊢
  exact h1
theorem q_or {t x y a b T T2} {kd : IntKind} {m : Nat} (hs : kd.signed = false) (hm : kd.bits = m) (hx : evO e x = some (.int kd a)) (hy : evO e y = some (.int kd b)) : QV P w0 (.mk (some t) (.binOp .or T x y T2) ty pos aft none) e F (.int kd (bOr m a b)) := by
  intro ρ w ha hw
  subst hm
  have h1 := run_intOr (P := P) (w := w) hs a b
  simp [execOp, ha _ _ hx, ha _ _ hy, eqGuard, binOp, go_sem] at h1 ⊢
  exact h1
theorem q_xor {t x y a b T T2} {kd : IntKind} {m : Nat} (hs : kd.signed = false) (hm : kd.bits = m) (hx : evO e x = some (.int kd a)) (hy : evO e y = some (.int kd b)) : QV P w0 (.mk (some t) (.binOp .xor T x y T2) ty pos aft none) e F (.int kd (bXor m a b)) := by
  intro ρ w ha hw
  subst hm
  have h1 := run_intXor (P := P) (w := w) hs a b
  simp [execOp, ha _ _ hx, ha _ _ hy, eqGuard, binOp, go_sem] at h1 ⊢
  exact h1
theorem q_andNot {t x y a b T T2} {kd : IntKind} {m : Nat} (hs : kd.signed = false) (hm : kd.bits = m) (hx : evO e x = some (.int kd a)) (hy : evO e y = some (.int kd b)) : QV P w0 (.mk (some t) (.binOp .andNot T x y T2) ty pos aft none) e F (.int kd (bAndNot m a b)) := by
  intro ρ w ha hw
  subst hm
  have h1 := run_intAndNot (P := P) (w := w) hs a b
  simp [execOp, ha _ _ hx, ha _ _ hy, eqGuard, binOp, go_sem] at h1 ⊢
  exact h1
theorem q_compl {t x a T} {kd : IntKind} {m : Nat} {c : Int} (hs : kd.signed = false) (hm : kd.bits = m) (hc : kd.max = c) (hx : evO e x = some (.int kd a)) : QV P w0 (.mk (some t) (.unOp .xor T x) ty pos aft none) e F (.int kd (bXor m c a)) := by
  intro ρ w ha hw
  subst hm hc
  have h1 := run_intXor (P := P) (w := w) hs kd.max a
  simp [execOp, ha _ _ hx, Op.unary, hs, go_sem] at h1 ⊢
  exact h1
theorem q_shl {t x y a b T T2} {kd k2 : IntKind} {r : Int} (hx : evO e x = some (.int kd a)) (hy : evO e y = some (.int k2 b)) (hb : 0 ≤ b) (hr : kd.wrap (a * 2 ^ min b.toNat kd.bits) = r) : QV P w0 (.mk (some t) (.binOp .shl T x y T2) ty pos aft none) e F (.int kd r) := by
  intro ρ w ha hw
  have hnb : ¬ b < 0 := by omega
  simp [execOp, ha _ _ hx, ha _ _ hy, eqGuard, binOp, Op.shift, hnb, go_sem]
  exact hr
theorem q_shr {t x y a b T T2} {kd k2 : IntKind} {r : Int} (hx : evO e x = some (.int kd a)) (hy : evO e y = some (.int k2 b)) (hb : 0 ≤ b) (hr : a / 2 ^ min b.toNat kd.bits = r) : QV P w0 (.mk (some t) (.binOp .shr T x y T2) ty pos aft none) e F (.int kd r) := by
  intro ρ w ha hw
  have hnb : ¬ b < 0 := by omega
  have h2 : (0 : Int) ≤ 2 ^ min b.toNat kd.bits := Int.pow_nonneg (by decide)
  rw [← Int.fdiv_eq_ediv_of_nonneg _ h2] at hr
  simp [execOp, ha _ _ hx, ha _ _ hy, eqGuard, binOp, Op.shift, hnb, go_sem]
  exact hr
theorem l_and {t x y a b T T2} {kd : IntKind} {m : Nat} (ht : Nat.ble (t + 1) n = true) (hs : kd.signed = false) (hm : kd.bits = m) (hx : evO e x = some (.int kd a)) (hy : evO e y = some (.int kd b)) (hk : GL P f w0 K n d ops rest k ((t, .int kd (bAnd m a b)) :: e) F) : GL P f w0 K n d ops (.mk (some t) (.binOp .and T x y T2) ty pos aft none :: rest) k e F := l_val ht (q_and (t := t) (F := F) hs hm hx hy) hk
theorem l_or {t x y a b T T2} {kd : IntKind} {m : Nat} (ht : Nat.ble (t + 1) n = true) (hs : kd.signed = false) (hm : kd.bits = m) (hx : evO e x = some (.int kd a)) (hy : evO e y = some (.int kd b)) (hk : GL P f w0 K n d ops rest k ((t, .int kd (bOr m a b)) :: e) F) : GL P f w0 K n d ops (.mk (some t) (.binOp .or T x y T2) ty pos aft none :: rest) k e F := l_val ht (q_or (t := t) (F := F) hs hm hx hy) hk
theorem l_xor {t x y a b T T2} {kd : IntKind} {m : Nat} (ht : Nat.ble (t + 1) n = true) (hs : kd.signed = false) (hm : kd.bits = m) (hx : evO e x = some (.int kd a)) (hy : evO e y = some (.int kd b)) (hk : GL P f w0 K n d ops rest k ((t, .int kd (bXor m a b)) :: e) F) : GL P f w0 K n d ops (.mk (some t) (.binOp .xor T x y T2) ty pos aft none :: rest) k e F := l_val ht (q_xor (t := t) (F := F) hs hm hx hy) hk
theorem l_andNot {t x y a b T T2} {kd : IntKind} {m : Nat} (ht : Nat.ble (t + 1) n = true) (hs : kd.signed = false) (hm : kd.bits = m) (hx : evO e x = some (.int kd a)) (hy : evO e y = some (.int kd b)) (hk : GL P f w0 K n d ops rest k ((t, .int kd (bAndNot m a b)) :: e) F) : GL P f w0 K n d ops (.mk (some t) (.binOp .andNot T x y T2) ty pos aft none :: rest) k e F := l_val ht (q_andNot (t := t) (F := F) hs hm hx hy) hk
theorem l_compl {t x a T} {kd : IntKind} {m : Nat} {c : Int} (ht : Nat.ble (t + 1) n = true) (hs : kd.signed = false) (hm : kd.bits = m) (hc : kd.max = c) (hx : evO e x = some (.int kd a)) (hk : GL P f w0 K n d ops rest k ((t, .int kd (bXor m c a)) :: e) F) : GL P f w0 K n d ops (.mk (some t) (.unOp .xor T x) ty pos aft none :: rest) k e F := l_val ht (q_compl (t := t) (F := F) hs hm hc hx) hk
theorem l_shl {t x y a b T T2} {kd k2 : IntKind} {r : Int} (ht : Nat.ble (t + 1) n = true) (hx : evO e x = some (.int kd a)) (hy : evO e y = some (.int k2 b)) (hb : 0 ≤ b) (hr : kd.wrap (a * 2 ^ min b.toNat kd.bits) = r) (hk : GL P f w0 K n d ops rest k ((t, .int kd r) :: e) F) : GL P f w0 K n d ops (.mk (some t) (.binOp .shl T x y T2) ty pos aft none :: rest) k e F := l_val ht (q_shl (t := t) (F := F) hx hy hb hr) hk
theorem l_shr {t x y a b T T2} {kd k2 : IntKind} {r : Int} (ht : Nat.ble (t + 1) n = true) (hx : evO e x = some (.int kd a)) (hy : evO e y = some (.int k2 b)) (hb : 0 ≤ b) (hr : a / 2 ^ min b.toNat kd.bits = r) (hk : GL P f w0 K n d ops rest k ((t, .int kd r) :: e) F) : GL P f w0 K n d ops (.mk (some t) (.binOp .shr T x y T2) ty pos aft none :: rest) k e F := l_val ht (q_shr (t := t) (F := F) hx hy hb hr) hk
/-- A text's bytes appended. -/
theorem l_append_str {t x y T S E m inf v s} {F1 : Value → List Atom} {V : List Int} (i : Nat) (ht : Nat.ble (t + 1) n = true) (hT : P.underlying T = some (.slice E)) (hS : P.underlying S = some .string) (hi : P.info? E = some inf) (hz : inf.zero = some (.int .u8 0)) (hsz : inf.size = 1) (hby : inf.bytes = 1)
    (hx : evO e x = some v) (hy : evO e y = some (.string s)) (hF : getO F i = some (Own E 1 v m (ints .u8 V))) (hb : m + s.size ≤ 140737488355328)
    (hset : ∀ v', setO F i (Own E 1 v' (m + s.size) (ints .u8 (V ++ bytesI s))) = some (F1 v'))
    (hk : ∀ v', GL P f w0 K n d ops rest k ((t, v') :: e) (F1 v')) :
    GL P f w0 K n d ops (.mk (some t) (.call ⟨.builtin .append, #[x, y], #[T, S]⟩) ty pos aft none :: rest) k e F :=
  l_eff ht fun ρ w ha hw => by
    have hargs : (#[x, y] : Array Operand).map ρ = [v, .string s].toArray := kn_args (xs := [x, y]) ha (by simp [evL, hx, hy])
    obtain ⟨l', h1', _⟩ := perm_set (a' := Own E 1 v m (ints .u8 V)) (getO_eq hF)
    obtain ⟨v', w', hr, hw'⟩ := run_append_atom_str (P := P) (ty := ty) (s := s) hT hS hi hz hsz hby (hw.perm h1') hb (by simp only [maxLen]; omega)
    obtain ⟨l2, h2, h3⟩ := perm_set (a' := Own E 1 v' (m + s.size) (ints .u8 V ++ strCells s)) (getO_eq hF)
    have he := (setO_eq (hset v')).2
    refine ⟨v', w', F1 v', run_builtin ρ hargs (by simp only [builtin]; exact run_value hr), ?_, hk v'⟩
    rw [he, ← ints_append, ← strCells_ints]
    exact (hw'.perm ((((h1'.symm.trans h2).cons_inv).cons _))).perm h3.symm
/-- Bytes as a text. -/
theorem q_bytes_str {t x T S E a m c} {W : List Int} (hT : P.underlying T = some (.slice E)) (hE : P.underlying E = some (.int .u8)) (hS : P.underlying S = some .string) (hx : evO e x = some (.slice a m c)) (hI : IR w0 F .u8 a m W) (ha0 : a = none → m = 0) : QV P w0 (.mk (some t) (.convert T S x) ty pos aft none) e F (.string (strOfNums W)) := by
  intro ρ w ha hw
  simp only [execOp, ha _ _ hx]
  refine run_value ?_
  obtain ⟨hl, hI⟩ := hI
  cases a with
  | none =>
    have hm := ha0 rfl
    subst hm
    have : W = [] := List.eq_nil_of_length_eq_zero hl
    subst this
    exact run_convert_bytes_nil w T E hT hE 0 c S hS
  | some a =>
    rcases hI with hm | ⟨b, o, he, hr⟩
    · subst hm
      have : W = [] := List.eq_nil_of_length_eq_zero hl
      subst this
      rw [run_convert_bytes_string w T S E (some a) 0 c hT hE hS]
      rfl
    · injection he with he
      subst he
      exact run_convert_bytes_arg w T E hT hE b o m c W hl (fun i hi => hr w hw i _ (ints_get (by omega))) S hS
theorem l_bytes_str {t x T S E a m c} {W : List Int} (ht : Nat.ble (t + 1) n = true) (hT : P.underlying T = some (.slice E)) (hE : P.underlying E = some (.int .u8)) (hS : P.underlying S = some .string) (hx : evO e x = some (.slice a m c)) (hI : IR w0 F .u8 a m W) (ha0 : a = none → m = 0) (hk : GL P f w0 K n d ops rest k ((t, .string (strOfNums W)) :: e) F) :
    GL P f w0 K n d ops (.mk (some t) (.convert T S x) ty pos aft none :: rest) k e F := l_val ht (q_bytes_str (t := t) hT hE hS hx hI ha0) hk
theorem q_eqls {t x y a b T T2} (hx : evO e x = some (.string a)) (hy : evO e y = some (.string b)) : QV P w0 (.mk (some t) (.binOp .eql T x y T2) ty pos aft none) e F (.bool (a.toList == b.toList)) := by
  intro ρ w ha hw
  simp only [execOp, ha _ _ hx, ha _ _ hy]
  refine run_value ?_
  simp [eqGuard, binOp_string_eql, go_sem]
theorem l_eqls {t x y a b T T2} (ht : Nat.ble (t + 1) n = true) (hx : evO e x = some (.string a)) (hy : evO e y = some (.string b)) (hk : GL P f w0 K n d ops rest k ((t, .bool (a.toList == b.toList)) :: e) F) :
    GL P f w0 K n d ops (.mk (some t) (.binOp .eql T x y T2) ty pos aft none :: rest) k e F := l_val ht (q_eqls (t := t) (F := F) hx hy) hk
theorem q_neqs {t x y a b T T2} (hx : evO e x = some (.string a)) (hy : evO e y = some (.string b)) : QV P w0 (.mk (some t) (.binOp .neq T x y T2) ty pos aft none) e F (.bool (!(a.toList == b.toList))) := by
  intro ρ w ha hw
  simp only [execOp, ha _ _ hx, ha _ _ hy]
  refine run_value ?_
  simp [eqGuard, binOp_string_neq, go_sem]
theorem l_neqs {t x y a b T T2} (ht : Nat.ble (t + 1) n = true) (hx : evO e x = some (.string a)) (hy : evO e y = some (.string b)) (hk : GL P f w0 K n d ops rest k ((t, .bool (!(a.toList == b.toList))) :: e) F) :
    GL P f w0 K n d ops (.mk (some t) (.binOp .neq T x y T2) ty pos aft none :: rest) k e F := l_val ht (q_neqs (t := t) (F := F) hx hy) hk
theorem run_conv_mark {w : World} {T E g m c : Nat} {cur : Array Value} (hT : P.underlying T = some (.slice E)) (hE : P.underlying E = some (.int .u8)) (hg : w.heap[g]? = some (.cells cur E (0, 0))) :
    (convert T T (.slice (some ⟨g, 0, none⟩) m c)).run P w = .ok (.slice (some ⟨g, 0, none⟩) m c) (w.freeze ⟨g, cur.size, none⟩ 1) := by
  have hsh : w.shape? g = some (E, cur.size) := by unfold World.shape?; rw [hg]
  simp [convert, run_underlying hT, run_underlying hE, markStringish, hsh]
/-- Bytes of a constant text: the row bears the run-time's mark from then on. -/
theorem l_conv_mark {t x T E g m F1} {W : List Int} (i : Nat) (ht : Nat.ble (t + 1) n = true) (hT : P.underlying T = some (.slice E)) (hE : P.underlying E = some (.int .u8)) (hx : evO e x = some (.slice (some ⟨g, 0, none⟩) m m)) (hF : getO F i = some (Own E 1 (.slice (some ⟨g, 0, none⟩) m m) m (ints .u8 W)))
    (hset : setO F i (Blk g (.cells (ints .u8 W).toArray E (m, m + 1))) = some F1) (hk : GL P f w0 K n d ops rest k ((t, .slice (some ⟨g, 0, none⟩) m m) :: e) F1) :
    GL P f w0 K n d ops (.mk (some t) (.convert T T x) ty pos aft none :: rest) k e F :=
  l_eff ht fun ρ w ha hw => by
    obtain ⟨l', h1, h2⟩ := perm_set (a' := Blk g (.cells (ints .u8 W).toArray E (m, m + 1))) (getO_eq hF)
    have he := (setO_eq hset).2
    have hw1 := hw.perm h1
    have hok := hw1.ok _ (List.mem_cons_self ..)
    have hlt := hw1.lt _ (List.mem_cons_self ..) g rfl
    obtain ⟨hl, hv⟩ := hok
    rcases hv with ⟨hv, _⟩ | ⟨g', cap, cur, hv, hg, _, _, hcs, htk⟩
    · cases hv
    · cases hv
      have hcs' : cur.size = m := by simpa using hcs
      have hcur : cur = (ints .u8 W).toArray := by
        apply Array.toList_inj.1
        rw [← htk, Nat.mul_one]
        simp only [List.take_toArray]
        rw [List.take_of_length_le (by simp [hcs'])]
      refine ⟨_, w.freeze ⟨g, cur.size, none⟩ 1, F1, ?_, ?_, hk⟩
      · simp only [execOp, ha _ _ hx]
        exact run_value (run_conv_mark hT hE hg)
      · rw [he]
        refine Holds.perm (Holds.turn (A' := Blk g (.cells (ints .u8 W).toArray E (m, m + 1))) hw1 (by simp [World.freeze]) (by simp [World.freeze]) (by simp [World.freeze]) (by simp [World.freeze]) (fun b hb hnb => ?_) ?_ (fun b hb => .inl ?_) (fun b hb => ?_)) h2.symm
        · have hne : g ≠ b := fun e => hnb (by subst e; rfl)
          simp [World.freeze, Array.getElem?_modify, hne]
        · show (w.freeze ⟨g, cur.size, none⟩ 1).heap[g]? = _
          have hg' : w.heap[g]? = some (.cells cur E (0, 0)) := hg
          simp [World.freeze, Array.getElem?_modify, hg', hcs', hcur]
          rw [hcur] at hcs'
          simp at hcs'
          exact hcs'
        · simp only [Blk] at hb; subst hb; rfl
        · simp only [Blk] at hb; subst hb
          simpa [World.freeze] using hlt
end
end Go.Proofs.Ytecibldbnekgbaa.Fw
