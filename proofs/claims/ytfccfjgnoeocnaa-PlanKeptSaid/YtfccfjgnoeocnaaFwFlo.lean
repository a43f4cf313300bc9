import Derived.Test.YtfccfjgnoeocnaaFw17
import Derived.Laws.FloatArith
import Derived.Laws.Cover2
namespace Go.Proofs.Ytfccfjgnoeocnaa.Fw.Flo
open Go Ieee
set_option linter.unusedVariables false
set_option linter.unusedSimpArgs false
theorem sig : double.signWeight = 9223372036854775808 := by decide
theorem bin : double.binade = 4503599627370496 := by decide
theorem inf : double.infRung = 9218868437227405312 := by decide
theorem lea : double.leastPlace = -1074 := by decide
theorem read_word {neg : Bool} {r : Nat} (h : r ≤ double.infRung) : ∀ s t, double.read (double.word neg r) ≠ .nan s t := by
  intro s t
  have h1 := inf
  have hm : double.word neg r % double.signWeight = r := by
    unfold Format.word
    rw [sig]
    split <;> omega
  unfold Format.read
  simp only [hm]
  split
  · simp
  · split
    · simp
    · have : r = double.infRung := by omega
      simp [this]
theorem write_num {neg : Bool} {m : Nat} {p : Int} : ∃ n r, double.write (.number neg m p) = double.word n r ∧ r ≤ double.infRung := by
  simp only [Format.write, Format.nearest]
  split
  · exact ⟨_, 0, rfl, Nat.zero_le _⟩
  · exact ⟨_, _, rfl, Nat.min_le_right ..⟩
theorem order_self {d : Datum} (h : ∀ s t, d ≠ .nan s t) : d.order d = some .eq := by
  cases d with
  | number s m p => simp [Datum.order]
  | infinity s => simp [Datum.order]
  | nan s t => exact absurd rfl (h s t)
theorem self_eq {neg : Bool} {m : Nat} {p : Int} : double.order (double.write (.number neg m p)) (double.write (.number neg m p)) = some .eq := by
  obtain ⟨n, r, h1, h2⟩ := @write_num neg m p
  rw [h1]
  exact order_self (read_word h2)
theorem log_lt {m k : Nat} (h0 : m ≠ 0) (h : m < 2 ^ k) : m.log2 < k := (Nat.log2_lt h0).2 h
theorem read_rung {r : Nat} (h1 : 4503599627370496 ≤ r) (h2 : r < 9218868437227405312) : double.read r = .number false (4503599627370496 + r % 4503599627370496) (-1074 + (r / 4503599627370496 - 1 : Nat)) := by
  unfold Format.read
  rw [sig, bin, inf, lea]
  have hm : r % 9223372036854775808 = r := by omega
  have hd : r / 9223372036854775808 % 2 = 0 := by omega
  rw [hm, hd]
  rw [if_neg (by omega), if_pos h2]
  rfl
theorem cut_zero {neg : Bool} {n : Nat} : Toward.even.cut neg n 0 = n := by
  simp [Toward.cut, Nat.mod_one]
theorem exact_read {m : Nat} (h0 : 0 < m) (h1 : m < 9007199254740992) : ∃ M, M = m * 2 ^ (52 - m.log2) ∧ 4503599627370496 ≤ M ∧ M < 9007199254740992 ∧ m.log2 ≤ 52 ∧
    double.read (double.write (.number false m 0)) = .number false M ((m.log2 : Int) - 52) := by
  have hl : m.log2 ≤ 52 := by have := log_lt (m := m) (k := 53) (by omega) (by simpa using h1); omega
  have e1 := Nat.log2_self_le (n := m) (by omega)
  have e2 := @Nat.lt_log2_self m
  obtain ⟨k, hk⟩ : ∃ k, 52 - m.log2 = k := ⟨_, rfl⟩
  have e3 : 2 ^ m.log2 * 2 ^ k = 4503599627370496 := by rw [← Nat.pow_add, show m.log2 + k = 52 by omega]
  have e4 : 2 ^ (m.log2 + 1) * 2 ^ k = 9007199254740992 := by rw [← Nat.pow_add, show m.log2 + 1 + k = 53 by omega]
  have e5 : 4503599627370496 ≤ m * 2 ^ k := by rw [← e3]; exact Nat.mul_le_mul_right _ e1
  have e6 : m * 2 ^ k < 9007199254740992 := by rw [← e4]; exact (Nat.mul_lt_mul_right (Nat.two_pow_pos k)).2 e2
  refine ⟨m * 2 ^ k, by rw [hk], e5, e6, hl, ?_⟩
  have hw : double.write (.number false m 0) = (m.log2 + 1022) * 4503599627370496 + m * 2 ^ k := by
    simp only [Format.write, Format.nearest]
    rw [if_neg (by omega), lea, bin, inf]
    have hlast : max ((0 : Int) + m.log2 - (double.fractionBits : Nat)) (-1074) = (m.log2 : Int) - 52 := by
      show max ((0 : Int) + m.log2 - ((52 : Nat) : Int)) (-1074) = _
      omega
    rw [hlast]
    have d1 : ((m.log2 : Int) - 52 - 0).toNat = 0 := by omega
    have d2 : ((0 : Int) - ((m.log2 : Int) - 52)).toNat = k := by omega
    have d3 : ((m.log2 : Int) - 52 - -1074).toNat = m.log2 + 1022 := by omega
    rw [d1, d2, d3, cut_zero, Nat.shiftLeft_eq]
    unfold Format.word
    have : (m.log2 + 1022) * 4503599627370496 + m * 2 ^ k ≤ 9218868437227405312 := by omega
    simp [Nat.min_eq_left this]
  rw [hw, read_rung (by omega) (by omega)]
  congr 1
  · omega
  · omega
theorem read_zero : double.read (double.write (.number false 0 0)) = .number false 0 (-1074) := by decide
theorem quo_num {a b : Nat} (ha : a < 9007199254740992) (hb0 : 0 < b) (hb : b < 9007199254740992) : ∃ Q p, double.div (double.write (.number false a 0)) (double.write (.number false b 0)) = some (double.write (.number false Q p)) := by
  obtain ⟨Mb, _, hb1, _, _, hb2⟩ := exact_read hb0 hb
  unfold Format.div
  rw [hb2]
  rcases Nat.eq_zero_or_pos a with rfl | h
  · rw [read_zero]
    simp only [Datum.quotient]
    rw [if_neg (by omega)]
    exact ⟨_, _, rfl⟩
  · obtain ⟨Ma, _, _, _, _, ha2⟩ := exact_read h ha
    rw [ha2]
    simp only [Datum.quotient]
    rw [if_neg (by omega)]
    exact ⟨_, _, rfl⟩
theorem of_int {a : Int} (h : 0 ≤ a) : floatOfInt .f64 a = double.write (.number false a.toNat 0) := by
  obtain ⟨n, rfl⟩ := Int.eq_ofNat_of_zero_le h
  show double.write (.number (decide ((n : Int) < 0)) ((n : Int).natAbs) 0) = _
  have : decide ((n : Int) < 0) = false := decide_eq_false (by omega)
  rw [this]; simp
/-- A quotient of whole numbers is a number. -/
theorem quo_ok {a b : Int} (h0 : 0 ≤ a) (h1 : a < 9007199254740992) (h2 : 1 ≤ b) (h3 : b < 9007199254740992) : ∃ r, floatBits .quo .f64 (floatOfInt .f64 a) (floatOfInt .f64 b) = some r ∧ FloatKind.f64.format.order r r = some .eq := by
  rw [of_int h0, of_int (by omega)]
  obtain ⟨Q, p, hq⟩ := quo_num (a := a.toNat) (b := b.toNat) (by omega) (by omega) (by omega)
  exact ⟨_, hq, self_eq⟩
theorem cut_le {neg : Bool} {n k : Nat} (h : k ≤ n.log2 + 2) : Toward.even.cut neg n k ≤ n / 2 ^ k + 1 := by
  unfold Toward.cut
  simp only [Nat.min_eq_left h, Nat.shiftLeft_eq, Nat.one_mul]
  have : ∀ b : Bool, b.toNat ≤ 1 := by decide
  exact Nat.add_le_add_left (this _) _
theorem write_big {Q : Nat} {p : Int} (h0 : 0 < Q) (hL : 54 ≤ Q.log2) (hp : -1074 ≤ p + Q.log2 - 52) (hp2 : p + Q.log2 - 52 ≤ -53) : double.write (.number false Q p) ≤ 1023 * 4503599627370496 := by
  simp only [Format.write, Format.nearest]
  rw [if_neg (by omega), lea, bin, inf]
  have hlast : max (p + Q.log2 - (double.fractionBits : Nat)) (-1074) = p + Q.log2 - 52 := by
    show max (p + Q.log2 - ((52 : Nat) : Int)) (-1074) = _
    omega
  rw [hlast]
  have d1 : (p - (p + (Q.log2 : Int) - 52)).toNat = 0 := by omega
  have d2 : (p + (Q.log2 : Int) - 52 - p).toNat = Q.log2 - 52 := by omega
  rw [d1, d2, Nat.shiftLeft_zero]
  have hc := cut_le (neg := false) (n := Q) (k := Q.log2 - 52) (by omega)
  have hq : Q / 2 ^ (Q.log2 - 52) < 9007199254740992 := by
    refine Nat.div_lt_of_lt_mul ?_
    have := @Nat.lt_log2_self Q
    have e : 2 ^ (Q.log2 - 52) * 9007199254740992 = 2 ^ (Q.log2 + 1) := by
      rw [show (9007199254740992 : Nat) = 2 ^ 53 by decide, ← Nat.pow_add, show Q.log2 - 52 + 53 = Q.log2 + 1 by omega]
    rw [e]; exact this
  have hr : (p + (Q.log2 : Int) - 52 - -1074).toNat ≤ 1021 := by omega
  have : (p + (Q.log2 : Int) - 52 - -1074).toNat * 4503599627370496 ≤ 1021 * 4503599627370496 := Nat.mul_le_mul_right _ hr
  simp only [Format.word]
  simp only [Bool.false_eq_true, if_false]
  refine Nat.le_trans (Nat.min_le_left _ _) ?_
  exact Nat.le_trans (Nat.add_le_add this (Nat.le_trans hc (Nat.succ_le_of_lt hq))) (by decide)
theorem log_mono {a b : Nat} (ha : 0 < a) (h : a ≤ b) : a.log2 ≤ b.log2 := by
  rcases Nat.lt_or_ge b.log2 a.log2 with hl | hl
  · have h1 := @Nat.lt_log2_self b
    have h2 := Nat.log2_self_le (n := a) (by omega)
    have h3 : 2 ^ (b.log2 + 1) ≤ 2 ^ a.log2 := Nat.pow_le_pow_right (by omega) hl
    omega
  · exact hl
theorem log_of {m k : Nat} (h1 : 2 ^ k ≤ m) (h2 : m < 2 ^ (k + 1)) : m.log2 = k := by
  have h0 : m ≠ 0 := by have := Nat.two_pow_pos k; omega
  have a := (Nat.log2_lt h0).2 h2
  have b := (Nat.le_log2 h0).2 h1
  omega
theorem quo_le {a b : Nat} (h0 : 0 < a) (hab : a ≤ b) (hb : b < 9007199254740992) : ∃ r, double.div (double.write (.number false a 0)) (double.write (.number false b 0)) = some r ∧ r ≤ 1023 * 4503599627370496 := by
  obtain ⟨Mb, eb, b1, b2, bl, hb2⟩ := exact_read (show 0 < b by omega) hb
  obtain ⟨Ma, ea, a1, a2, al, ha2⟩ := exact_read h0 (by omega)
  unfold Format.div
  rw [hb2, ha2]
  simp only [Datum.quotient]
  rw [if_neg (by omega)]
  have la : Ma.log2 = 52 := log_of (by simpa using a1) (by simpa using a2)
  have lb : Mb.log2 = 52 := log_of (by simpa using b1) (by simpa using b2)
  have hmore : double.fractionBits + 2 + Mb.log2 - Ma.log2 = 54 := by rw [la, lb]; rfl
  rw [hmore, Nat.shiftLeft_eq]
  refine ⟨_, rfl, ?_⟩
  have hlog := log_mono h0 hab
  obtain ⟨A, hA⟩ : ∃ A, Ma * 2 ^ 54 = A := ⟨_, rfl⟩
  have hA1 : A = Ma * 18014398509481984 := by rw [← hA]
  rw [hA]
  have hs : (A % Mb != 0).toNat ≤ 1 := by have : ∀ b : Bool, b.toNat ≤ 1 := by decide
                                          exact this _
  obtain ⟨s, hs0⟩ : ∃ s, (A % Mb != 0).toNat = s := ⟨_, rfl⟩
  rw [hs0] at hs
  have hlow : 9007199254740992 ≤ A / Mb := by
    refine (Nat.le_div_iff_mul_le (by omega)).2 ?_
    omega
  rcases Nat.lt_or_ge a.log2 b.log2 with hl | hl
  · have hup : A / Mb < 36028797018963968 := by
      refine Nat.div_lt_of_lt_mul ?_
      have := Nat.mul_le_mul_right 36028797018963968 b1
      omega
    rw [hs0]
    have hQ1 : 54 ≤ (2 * (A / Mb) + s).log2 := (Nat.le_log2 (by omega)).2 (by have : (2 : Nat) ^ 54 = 18014398509481984 := by decide
                                                                              omega)
    have hQ2 : (2 * (A / Mb) + s).log2 < 56 := (Nat.log2_lt (by omega)).2 (by have : (2 : Nat) ^ 56 = 72057594037927936 := by decide
                                                                              omega)
    exact write_big (by omega) hQ1 (by omega) (by omega)
  · have hll : a.log2 = b.log2 := by omega
    rcases Nat.lt_or_ge Ma Mb with hm | hm
    · have hup : A / Mb < 18014398509481984 := by
        refine Nat.div_lt_of_lt_mul ?_
        omega
      rw [hs0]
      have hQ1 : 54 ≤ (2 * (A / Mb) + s).log2 := (Nat.le_log2 (by omega)).2 (by have : (2 : Nat) ^ 54 = 18014398509481984 := by decide
                                                                                omega)
      have hQ2 : (2 * (A / Mb) + s).log2 < 55 := (Nat.log2_lt (by omega)).2 (by have : (2 : Nat) ^ 55 = 36028797018963968 := by decide
                                                                                omega)
      exact write_big (by omega) hQ1 (by omega) (by omega)
    · have hle : Ma ≤ Mb := by
        rw [ea, eb, hll]
        exact Nat.mul_le_mul_right _ hab
      have heq : Ma = Mb := by omega
      subst heq
      have hd : A / Ma = 18014398509481984 := by rw [hA1]; exact Nat.mul_div_cancel_left _ (by omega)
      have hmod : A % Ma = 0 := by rw [hA1]; exact Nat.mul_mod_right _ _
      rw [hmod] at hs0 ⊢
      rw [hd, hll]
      have hpl : ((b.log2 : Int) - 52 - ((b.log2 : Int) - 52) - ((54 : Nat) : Int) - 1) = -55 := by omega
      rw [hpl]
      decide
theorem order_le {r : Nat} (h : r ≤ 1023 * 4503599627370496) : double.order r 4607182418800017408 ≠ some .gt := by
  have h1 : double.read 4607182418800017408 = .number false 4503599627370496 (-52) := by decide
  unfold Format.order
  rw [h1]
  by_cases hs : r < 4503599627370496
  · have h2 : double.read r = .number false r (-1074) := by
      unfold Format.read
      rw [sig, bin, inf, lea]
      have hm : r % 9223372036854775808 = r := by omega
      have hd : r / 9223372036854775808 % 2 = 0 := by omega
      rw [hm, hd, if_pos hs]; rfl
    rw [h2]
    simp only [Datum.order]
    have e1 : ((-1074 : Int) - min (-1074) (-52)).toNat = 0 := by decide
    obtain ⟨k, e2⟩ : ∃ k : Nat, ((-52 : Int) - min (-1074) (-52)).toNat = k := ⟨_, rfl⟩
    rw [e1, e2]
    simp only [signed, Bool.false_eq_true, if_false, Nat.shiftLeft_zero, Nat.shiftLeft_eq]
    intro hc
    have hc := Option.some.inj hc
    rw [Int.compare_eq_gt] at hc
    have : 4503599627370496 * 1 ≤ 4503599627370496 * 2 ^ k := Nat.mul_le_mul_left _ (Nat.one_le_two_pow)
    omega
  · rw [read_rung (by omega) (by omega)]
    simp only [Datum.order]
    obtain ⟨e, he⟩ : ∃ e, r / 4503599627370496 = e := ⟨_, rfl⟩
    have he1 : 1 ≤ e := by omega
    have he2 : e ≤ 1023 := by omega
    rw [he]
    have e1 : ((-1074 : Int) + ((e - 1 : Nat) : Int) - min (-1074 + ((e - 1 : Nat) : Int)) (-52)).toNat = 0 := by omega
    have e2 : ((-52 : Int) - min (-1074 + ((e - 1 : Nat) : Int)) (-52)).toNat = 1023 - e := by omega
    rw [e1, e2]
    simp only [signed, Bool.false_eq_true, if_false, Nat.shiftLeft_zero, Nat.shiftLeft_eq]
    intro hc
    have hc := Option.some.inj hc
    rw [Int.compare_eq_gt] at hc
    rcases Nat.lt_or_ge e 1023 with h3 | h3
    · have h4 : (2 : Nat) ≤ 2 ^ (1023 - e) := by
        have := Nat.pow_le_pow_right (n := 2) (by decide) (show 1 ≤ 1023 - e by omega)
        simpa using this
      have := Nat.mul_le_mul_left 4503599627370496 h4
      omega
    · have h4 : e = 1023 := by omega
      subst h4
      have h5 : r % 4503599627370496 = 0 := by omega
      rw [h5] at hc
      simp at hc
/-- A quotient of whole numbers is at most one, where the one is at most the other. -/
theorem quo_one {a b : Int} {r : Nat} (h0 : 0 ≤ a) (h1 : a ≤ b) (h2 : 1 ≤ b) (h3 : b < 9007199254740992) (hq : floatBits .quo .f64 (floatOfInt .f64 a) (floatOfInt .f64 b) = some r) : FloatKind.f64.format.order r 4607182418800017408 ≠ some .gt := by
  rw [of_int h0, of_int (by omega)] at hq
  rcases Nat.eq_zero_or_pos a.toNat with hz | hz
  · obtain ⟨Mb, _, hb1, _, _, hb2⟩ := exact_read (show 0 < b.toNat by omega) (by omega)
    have : double.div (double.write (.number false a.toNat 0)) (double.write (.number false b.toNat 0)) = some r := hq
    unfold Format.div at this
    rw [hb2, hz, read_zero] at this
    simp only [Datum.quotient] at this
    rw [if_neg (by omega)] at this
    simp at this
    rw [← this]
    refine order_le ?_
    simp [Format.write, Format.nearest, Format.word]
  · obtain ⟨r2, h4, h5⟩ := quo_le (a := a.toNat) (b := b.toNat) hz (by omega) (by omega)
    have : some r2 = some r := h4.symm.trans hq
    injection this with this
    subst this
    exact order_le h5
end Go.Proofs.Ytfccfjgnoeocnaa.Fw.Flo
namespace Go.Proofs.Ytfccfjgnoeocnaa.Fw
open Go
section
variable {P : Program} {f : FuncId} {w0 : World} {K : Post} {n : Nat} {d : List Deferred} {ops : Array Oper} {rest : List Oper} {k : List Item} {e : Env} {F : List Atom}
variable {ty : TypeId} {pos : String} {aft : Array Edge}
theorem q_fneq {t x y a b T T2} {kd : FloatKind} (hx : evO e x = some (.float kd a)) (hy : evO e y = some (.float kd b)) : QV P w0 (.mk (some t) (.binOp .neq T x y T2) ty pos aft none) e F (.bool (kd.format.order a b != some .eq)) := by
  intro ρ w ha hw
  simp only [execOp, ha _ _ hx, ha _ _ hy]
  refine run_value ?_
  simp [eqGuard, binOp, Op.floatCmp, go_sem]
theorem l_fneq {t x y a b T T2} {kd : FloatKind} (ht : Nat.ble (t + 1) n = true) (hx : evO e x = some (.float kd a)) (hy : evO e y = some (.float kd b)) (hk : GL P f w0 K n d ops rest k ((t, .bool (kd.format.order a b != some .eq)) :: e) F) :
    GL P f w0 K n d ops (.mk (some t) (.binOp .neq T x y T2) ty pos aft none :: rest) k e F := l_val ht (q_fneq (t := t) (F := F) hx hy) hk
theorem l_fneqf {t x y a b T T2} {kd : FloatKind} (ht : Nat.ble (t + 1) n = true) (hx : evO e x = some (.float kd a)) (hy : evO e y = some (.float kd b)) (h : kd.format.order a b = some .eq) (hk : GL P f w0 K n d ops rest k ((t, .bool false) :: e) F) :
    GL P f w0 K n d ops (.mk (some t) (.binOp .neq T x y T2) ty pos aft none :: rest) k e F := l_fneq ht hx hy (by rw [h]; exact hk)
theorem q_fgtr {t x y a b T T2} {kd : FloatKind} (hx : evO e x = some (.float kd a)) (hy : evO e y = some (.float kd b)) : QV P w0 (.mk (some t) (.binOp .gtr T x y T2) ty pos aft none) e F (.bool (kd.format.order a b == some .gt)) := by
  intro ρ w ha hw
  simp only [execOp, ha _ _ hx, ha _ _ hy]
  refine run_value ?_
  simp [eqGuard, binOp, Op.floatCmp, go_sem]
theorem l_fgtr {t x y a b T T2} {kd : FloatKind} (ht : Nat.ble (t + 1) n = true) (hx : evO e x = some (.float kd a)) (hy : evO e y = some (.float kd b)) (hk : GL P f w0 K n d ops rest k ((t, .bool (kd.format.order a b == some .gt)) :: e) F) :
    GL P f w0 K n d ops (.mk (some t) (.binOp .gtr T x y T2) ty pos aft none :: rest) k e F := l_val ht (q_fgtr (t := t) (F := F) hx hy) hk
theorem q_fgtrf {t x y a b T T2} {kd : FloatKind} (hx : evO e x = some (.float kd a)) (hy : evO e y = some (.float kd b)) (h : kd.format.order a b ≠ some .gt) : QV P w0 (.mk (some t) (.binOp .gtr T x y T2) ty pos aft none) e F (.bool false) := by
  have := q_fgtr (P := P) (w0 := w0) (F := F) (t := t) (ty := ty) (pos := pos) (aft := aft) (T := T) (T2 := T2) hx hy
  rwa [show (kd.format.order a b == some .gt) = false by simpa using h] at this
theorem l_fgtrf {t x y a b T T2} {kd : FloatKind} (ht : Nat.ble (t + 1) n = true) (hx : evO e x = some (.float kd a)) (hy : evO e y = some (.float kd b)) (h : kd.format.order a b ≠ some .gt) (hk : GL P f w0 K n d ops rest k ((t, .bool false) :: e) F) :
    GL P f w0 K n d ops (.mk (some t) (.binOp .gtr T x y T2) ty pos aft none :: rest) k e F := l_val ht (q_fgtrf (t := t) (F := F) hx hy h) hk
end
end Go.Proofs.Ytfccfjgnoeocnaa.Fw
