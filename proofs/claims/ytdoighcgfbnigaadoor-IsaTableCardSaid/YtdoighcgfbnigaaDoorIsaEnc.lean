import Derived.Test.YtdoighcgfbnigaaDoorIsaTab
import Derived.Test.YtdoighcgfbnigaaDoorPhasx1
import Derived.Test.YtdoighcgfbnigaaDoorPfitsx1
import Derived.Deep.RegionHeld3
namespace Go.Proofs.YtdoighcgfbnigaaDoor.Isa
set_option linter.unusedVariables false
set_option linter.unusedSimpArgs false
open Go.RowKit Go.Proofs.YtdoighcgfbnigaaDoorW.PrintWords Go.Proofs.YtdoighcgfbnigaaDoorW.PrintLast Go.Proofs.YtdoighcgfbnigaaDoorW.PrintMore

theorem has_any (f : Int) (w : World) (h0 : 0 ≤ f) (h7 : f ≤ 7) :
    Calls Tryd.prog 23 #[.int .i64 f] w fun e w' => e = .returned (.tuple #[.bool (hasA f), .bool (hasB f), .bool (hasC f), .bool (hasI f)]) ∧ Drawn0 w w' := by
  refine Phas.isa_has.calls f _ _ _ _ w ?_
  have hc : f = 0 ∨ f = 1 ∨ f = 2 ∨ f = 3 ∨ f = 4 ∨ f = 5 ∨ f = 6 ∨ f = 7 := by omega
  rcases hc with rfl | rfl | rfl | rfl | rfl | rfl | rfl | rfl <;> rfl

theorem fits_any (b : Bool) (n l m : Int) (w : World) :
    Calls Tryd.prog 24 #[.bool b, .int .i64 n, .int .i64 l, .int .i64 m] w fun e w' => e = .returned (.bool (fits b n l m)) ∧ Drawn0 w w' := by
  refine Pfits.isa_fits.calls b n l m _ w ?_
  unfold Pfits.isa_fits.f fits
  cases b
  · simp; congr 1
  · simp only [if_true]
    split
    · congr 1; simp; omega
    · congr 1; simp; omega


theorem forms_bound : ∀ k, k < 31 → 0 ≤ forms.getD k 0 ∧ forms.getD k 0 ≤ 7 := by decide
theorem formOf_bound (op : Int) : 0 ≤ formOf op ∧ formOf op ≤ 7 := by
  unfold formOf; split
  · exact forms_bound _ (by omega)
  · omega
/-- What stands behind each call of a function of the table's: the instruction's own cells, the table, old memory. -/
structure EncW (w w' : World) (op a b c i : Int) : Prop where
  tab : Tab w'
  bel : Below w.heap.size w w'
  lt : w.heap.size < w'.heap.size
  c0 : w'.cell? ⟨w.heap.size, 0, none⟩ = some (.int .i64 op)
  c1 : w'.cell? ⟨w.heap.size, 1, none⟩ = some (.int .i64 a)
  c2 : w'.cell? ⟨w.heap.size, 2, none⟩ = some (.int .i64 b)
  c3 : w'.cell? ⟨w.heap.size, 3, none⟩ = some (.int .i64 c)
  c4 : w'.cell? ⟨w.heap.size, 4, none⟩ = some (.int .i64 i)

theorem EncW.start {w : World} {op a b c i : Int} (ht : Tab w) : EncW w (w.alloc (.cells #[.int .i64 op, .int .i64 a, .int .i64 b, .int .i64 c, .int .i64 i] 23)) op a b c i := by
  have hb : Below w.heap.size w (w.alloc (.cells #[.int .i64 op, .int .i64 a, .int .i64 b, .int .i64 c, .int .i64 i] 23)) := (Below.refl _ _).alloc (Nat.le_refl _) _
  refine ⟨ht.below hb, hb, by simp, ?_, ?_, ?_, ?_, ?_⟩ <;> (rw [World.cell?_alloc_at _ _ _ _ rfl]; rfl)

theorem EncW.next {w w1 w2 : World} {op a b c i : Int} (h : EncW w w1 op a b c i) (hb : Below w1.heap.size w1 w2) : EncW w w2 op a b c i :=
  have hz := hb.size
  ⟨h.tab.below hb, h.bel.trans (hb.mono (by have := h.lt; omega)), by have := h.lt; omega, (hb.cell (p := ⟨_, 0, none⟩) h.lt).trans h.c0, (hb.cell (p := ⟨_, 1, none⟩) h.lt).trans h.c1, (hb.cell (p := ⟨_, 2, none⟩) h.lt).trans h.c2,
    (hb.cell (p := ⟨_, 3, none⟩) h.lt).trans h.c3, (hb.cell (p := ⟨_, 4, none⟩) h.lt).trans h.c4⟩

theorem EncW.drew {w w1 : World} {op a b c i : Int} (h : EncW w w1 op a b c i) (n : Nat) : EncW w (w1.drewN n) op a b c i := h.next (Drawn0.below ⟨n, rfl⟩)



/-- The calls that Encode makes, answered. -/
structure EncH (op a b c i f : Int) (pa pb pc pi ra rb rc ri : Bool) : Prop where
  HF : ∀ W, Tab W → Calls Tryd.prog 15 #[.int .i64 op] W fun e w' => e = .returned (.int .i64 f) ∧ Below W.heap.size W w'
  HH : ∀ W, Calls Tryd.prog 23 #[.int .i64 f] W fun e w' => e = .returned (.tuple #[.bool pa, .bool pb, .bool pc, .bool pi]) ∧ Drawn0 W w'
  HA : ∀ W, Calls Tryd.prog 24 #[.bool pa, .int .i64 a, .int .i64 0, .int .i64 15] W fun e w' => e = .returned (.bool ra) ∧ Drawn0 W w'
  HB : ∀ W, Calls Tryd.prog 24 #[.bool pb, .int .i64 b, .int .i64 0, .int .i64 15] W fun e w' => e = .returned (.bool rb) ∧ Drawn0 W w'
  HC : ∀ W, Calls Tryd.prog 24 #[.bool pc, .int .i64 c, .int .i64 0, .int .i64 15] W fun e w' => e = .returned (.bool rc) ∧ Drawn0 W w'
  HI : ∀ W, Calls Tryd.prog 24 #[.bool pi, .int .i64 i, .int .i64 (-131072), .int .i64 131071] W fun e w' => e = .returned (.bool ri) ∧ Drawn0 W w'

theorem encH (op a b c i : Int) : EncH op a b c i (formOf op) (hasA (formOf op)) (hasB (formOf op)) (hasC (formOf op)) (hasI (formOf op)) (fits (hasA (formOf op)) a 0 15) (fits (hasB (formOf op)) b 0 15) (fits (hasC (formOf op)) c 0 15) (fits (hasI (formOf op)) i (-131072) 131071) :=
  ⟨fun W hW => form_any op W hW, fun W => has_any _ W (formOf_bound op).1 (formOf_bound op).2, fun W => fits_any _ _ _ _ W, fun W => fits_any _ _ _ _ W, fun W => fits_any _ _ _ _ W, fun W => fits_any _ _ _ _ W⟩

set_option maxHeartbeats 1600000 in
set_option maxRecDepth 100000 in
theorem enc_no (op a b c i f : Int) (pa pb pc pi ra rb rc ri : Bool) (w : World) (ht : Tab w) (H : EncH op a b c i f pa pb pc pi ra rb rc ri) (hn : f = 0 ∨ ra = false ∨ rb = false ∨ rc = false ∨ ri = false) :
    Calls Tryd.prog 10 #[.agg #[.int .i64 op, .int .i64 a, .int .i64 b, .int .i64 c, .int .i64 i]] w fun e w' => e = .returned (.tuple #[.int .u32 0, .int .i64 21]) ∧ Below w.heap.size w w' := by
  have hu23 := Tryd.underlying23
  have hE0 := EncW.start (op := op) (a := a) (b := b) (c := c) (i := i) ht
  clear ht
  by_cases hf : f = 0
  · subst hf
    obtain ⟨HF, HH, HA, HB, HC, HI⟩ := H
    have HF := Aside0.mk HF; have HH := Aside0.mk HH; have HA := Aside0.mk HA; have HB := Aside0.mk HB; have HC := Aside0.mk HC; have HI := Aside0.mk HI
    clear hn
    go_enter Tryd.func10, Tryd.ntmps10
    go_wp2_with (first | (go_at_call 15; (with_reducible refine (HF.out _ (EncW.tab (by assumption))).mono ?_); rintro e w1 ⟨rfl, hb⟩; have hE := EncW.next (by assumption) hb; clear hb; have k0 := hE.c0; have k1 := hE.c1; have k2 := hE.c2; have k3 := hE.c3; have k4 := hE.c4) | (go_at_call 23; (with_reducible refine (HH.out _).mono ?_); rintro e w' ⟨rfl, ⟨n, rfl⟩⟩; have hE := EncW.drew (by assumption) n) | (go_at_call 24; first | ((with_reducible refine (HA.out _).mono ?_); rintro e w' ⟨rfl, ⟨n, rfl⟩⟩; have hE := EncW.drew (by assumption) n) | ((with_reducible refine (HB.out _).mono ?_); rintro e w' ⟨rfl, ⟨n, rfl⟩⟩; have hE := EncW.drew (by assumption) n) | ((with_reducible refine (HC.out _).mono ?_); rintro e w' ⟨rfl, ⟨n, rfl⟩⟩; have hE := EncW.drew (by assumption) n) | ((with_reducible refine (HI.out _).mono ?_); rintro e w' ⟨rfl, ⟨n, rfl⟩⟩; have hE := EncW.drew (by assumption) n)))
    go_ret2
    exact ⟨rfl, by repeat (first | exact EncW.bel (by assumption) | apply pw_below_drewN)⟩
  · have hfb : (f == 0) = false := by simpa using hf
    have hn' : ra = false ∨ (ra = true ∧ rb = false) ∨ (ra = true ∧ rb = true ∧ rc = false) ∨ (ra = true ∧ rb = true ∧ rc = true ∧ ri = false) := by
      cases ra <;> cases rb <;> cases rc <;> cases ri <;> simp_all
    obtain ⟨HF, HH, HA, HB, HC, HI⟩ := H
    clear hn hf
    rcases hn' with rfl | ⟨rfl, rfl⟩ | ⟨rfl, rfl, rfl⟩ | ⟨rfl, rfl, rfl, rfl⟩
    all_goals
      have HF := Aside0.mk HF; have HH := Aside0.mk HH; have HA := Aside0.mk HA; have HB := Aside0.mk HB; have HC := Aside0.mk HC; have HI := Aside0.mk HI
      go_enter Tryd.func10, Tryd.ntmps10
      go_wp2_with (first | (go_at_call 15; (with_reducible refine (HF.out _ (EncW.tab (by assumption))).mono ?_); rintro e w1 ⟨rfl, hb⟩; have hE := EncW.next (by assumption) hb; clear hb; have k0 := hE.c0; have k1 := hE.c1; have k2 := hE.c2; have k3 := hE.c3; have k4 := hE.c4) | (go_at_call 23; (with_reducible refine (HH.out _).mono ?_); rintro e w' ⟨rfl, ⟨n, rfl⟩⟩; have hE := EncW.drew (by assumption) n) | (go_at_call 24; first | ((with_reducible refine (HA.out _).mono ?_); rintro e w' ⟨rfl, ⟨n, rfl⟩⟩; have hE := EncW.drew (by assumption) n) | ((with_reducible refine (HB.out _).mono ?_); rintro e w' ⟨rfl, ⟨n, rfl⟩⟩; have hE := EncW.drew (by assumption) n) | ((with_reducible refine (HC.out _).mono ?_); rintro e w' ⟨rfl, ⟨n, rfl⟩⟩; have hE := EncW.drew (by assumption) n) | ((with_reducible refine (HI.out _).mono ?_); rintro e w' ⟨rfl, ⟨n, rfl⟩⟩; have hE := EncW.drew (by assumption) n)))
      go_ret2
      exact ⟨rfl, by repeat (first | exact EncW.bel (by assumption) | apply pw_below_drewN)⟩

theorem or_apart (x y k : Nat) (h : y < 2 ^ k) : x * 2 ^ k ||| y = x * 2 ^ k + y := by
  have := Nat.shiftLeft_add_eq_or_of_lt h x
  rw [Nat.shiftLeft_eq] at this
  exact this.symm

theorem word_bits (op a b c i : Int) (o0 : 0 ≤ op) (o1 : op ≤ 63) (a0 : 0 ≤ a) (a1 : a ≤ 15) (b0 : 0 ≤ b) (b1 : b ≤ 15) (c0 : 0 ≤ c) (c1 : c ≤ 15) (hci : c = 0 ∨ i = 0) :
    Go.bits .or .u32 (Go.bits .or .u32 (Go.bits .or .u32 (Go.bits .or .u32 (op * 67108864) (a * 4194304)) (b * 262144)) (c * 16384)) (Go.bits .and .u32 (i % 4294967296) 262143) = word op a b c i := by
  have m0 : Go.bits .and .u32 (i % 4294967296) 262143 = i % 262144 := by
    rw [u32_and _ _ (by omega) (by omega) (by decide) (by decide)]
    have := Nat.and_two_pow_sub_one_eq_mod (i % 4294967296).toNat 18
    simp only [show (2 : Nat) ^ 18 - 1 = 262143 from rfl] at this
    rw [show (262143 : Int).toNat = 262143 from rfl, this]
    omega
  rw [m0]
  obtain ⟨op, rfl⟩ := Int.eq_ofNat_of_zero_le o0
  obtain ⟨a, rfl⟩ := Int.eq_ofNat_of_zero_le a0
  obtain ⟨b, rfl⟩ := Int.eq_ofNat_of_zero_le b0
  obtain ⟨c, rfl⟩ := Int.eq_ofNat_of_zero_le c0
  obtain ⟨l, hl⟩ : ∃ l : Nat, i % 262144 = l := ⟨(i % 262144).toNat, by omega⟩
  have hlt : l < 262144 := by omega
  rw [show ((op : Int) * 67108864) = ((op * 67108864 : Nat) : Int) by omega, show ((a : Int) * 4194304) = ((a * 4194304 : Nat) : Int) by omega, show ((b : Int) * 262144) = ((b * 262144 : Nat) : Int) by omega, show ((c : Int) * 16384) = ((c * 16384 : Nat) : Int) by omega, hl]
  have e1 : op * 67108864 ||| a * 4194304 = op * 67108864 + a * 4194304 := or_apart op (a * 4194304) 26 (by omega)
  have e2 : (op * 67108864 + a * 4194304) ||| b * 262144 = op * 67108864 + a * 4194304 + b * 262144 := by
    have := or_apart (op * 16 + a) (b * 262144) 22 (by omega)
    rw [show (op * 16 + a) * 2 ^ 22 = op * 67108864 + a * 4194304 by omega] at this
    exact this
  have e3 : (op * 67108864 + a * 4194304 + b * 262144) ||| c * 16384 = op * 67108864 + a * 4194304 + b * 262144 + c * 16384 := by
    have := or_apart (op * 256 + a * 16 + b) (c * 16384) 18 (by omega)
    rw [show (op * 256 + a * 16 + b) * 2 ^ 18 = op * 67108864 + a * 4194304 + b * 262144 by omega] at this
    exact this
  have e4 : (op * 67108864 + a * 4194304 + b * 262144 + c * 16384) ||| l = op * 67108864 + a * 4194304 + b * 262144 + c * 16384 + l := by
    rcases hci with h | h
    · have hc : c = 0 := by omega
      have := or_apart (op * 256 + a * 16 + b) l 18 (by omega)
      rw [show (op * 256 + a * 16 + b) * 2 ^ 18 = op * 67108864 + a * 4194304 + b * 262144 + c * 16384 by omega] at this
      exact this
    · have : l = 0 := by omega
      subst this; simp
  rw [u32_or_nat _ _ (by omega) (by omega), e1, u32_or_nat _ _ (by omega) (by omega), e2, u32_or_nat _ _ (by omega) (by omega), e3, u32_or_nat _ _ (by omega) (by omega), e4]
  unfold word
  omega

theorem ret_u {a a' b : Int} (h : a = a') : Ending.returned (.tuple #[.int .u32 a, .int .i64 b]) = Ending.returned (.tuple #[.int .u32 a', .int .i64 b]) := by rw [h]

set_option maxHeartbeats 800000 in
set_option maxRecDepth 100000 in
theorem enc_yes (op a b c i f : Int) (pa pb pc pi : Bool) (w : World) (ht : Tab w) (H : EncH op a b c i f pa pb pc pi true true true true) (hf : (f == 0) = false) (o0 : 1 ≤ op) (o1 : op ≤ 30) (a0 : 0 ≤ a) (a1 : a ≤ 15) (b0 : 0 ≤ b) (b1 : b ≤ 15) (c0 : 0 ≤ c) (c1 : c ≤ 15) (i0 : -131072 ≤ i) (i1 : i ≤ 131071) (hci : c = 0 ∨ i = 0) :
    Calls Tryd.prog 10 #[.agg #[.int .i64 op, .int .i64 a, .int .i64 b, .int .i64 c, .int .i64 i]] w fun e w' => e = .returned (.tuple #[.int .u32 (word op a b c i), .int .i64 0]) ∧ Below w.heap.size w w' := by
  have HW := Aside0.mk (word_bits op a b c i (by omega) (by omega) a0 a1 b0 b1 c0 c1 hci)
  clear hci
  have hu23 := Tryd.underlying23
  have hE0 := EncW.start (op := op) (a := a) (b := b) (c := c) (i := i) ht
  clear ht
  obtain ⟨HF, HH, HA, HB, HC, HI⟩ := H
  have HF := Aside0.mk HF; have HH := Aside0.mk HH; have HA := Aside0.mk HA; have HB := Aside0.mk HB; have HC := Aside0.mk HC; have HI := Aside0.mk HI
  go_enter Tryd.func10, Tryd.ntmps10
  go_wp2_with (first | (go_at_call 15; (with_reducible refine (HF.out _ (EncW.tab (by assumption))).mono ?_); rintro e w1 ⟨rfl, hb⟩; have hE := EncW.next (by assumption) hb; clear hb; have k0 := hE.c0; have k1 := hE.c1; have k2 := hE.c2; have k3 := hE.c3; have k4 := hE.c4) | (go_at_call 23; (with_reducible refine (HH.out _).mono ?_); rintro e w' ⟨rfl, ⟨n, rfl⟩⟩; have hE := EncW.drew (by assumption) n) | (go_at_call 24; first | ((with_reducible refine (HA.out _).mono ?_); rintro e w' ⟨rfl, ⟨n, rfl⟩⟩; have hE := EncW.drew (by assumption) n) | ((with_reducible refine (HB.out _).mono ?_); rintro e w' ⟨rfl, ⟨n, rfl⟩⟩; have hE := EncW.drew (by assumption) n) | ((with_reducible refine (HC.out _).mono ?_); rintro e w' ⟨rfl, ⟨n, rfl⟩⟩; have hE := EncW.drew (by assumption) n) | ((with_reducible refine (HI.out _).mono ?_); rintro e w' ⟨rfl, ⟨n, rfl⟩⟩; have hE := EncW.drew (by assumption) n)))
  go_ret2
  exact ⟨ret_u HW.out, by repeat (first | exact EncW.bel (by assumption) | apply pw_below_drewN)⟩

theorem formOf_pos (op : Int) (h : formOf op ≠ 0) : 1 ≤ op ∧ op ≤ 30 := by
  unfold formOf at h
  split at h
  · by_cases e : op = 0
    · subst e; exact absurd rfl h
    · omega
  · exact absurd rfl h

theorem fits_reg {b : Bool} {n : Int} (h : fits b n 0 15 = true) : 0 ≤ n ∧ n ≤ 15 := by
  unfold fits at h; cases b <;> simp at h <;> omega

theorem fits_imm {b : Bool} {n : Int} (h : fits b n (-131072) 131071 = true) : -131072 ≤ n ∧ n ≤ 131071 := by
  unfold fits at h; cases b <;> simp at h <;> omega

theorem okIns_iff (op a b c i : Int) (h : okIns op a b c i = true) : formOf op ≠ 0 ∧ fits (hasA (formOf op)) a 0 15 = true ∧ fits (hasB (formOf op)) b 0 15 = true ∧ fits (hasC (formOf op)) c 0 15 = true ∧ fits (hasI (formOf op)) i (-131072) 131071 = true := by
  unfold okIns at h
  simp only [Bool.and_eq_true, decide_eq_true_eq] at h
  exact ⟨h.1.1.1.1, h.1.1.1.2, h.1.1.2, h.1.2, h.2⟩

theorem okIns_bounds (op a b c i : Int) (h : okIns op a b c i = true) : (1 ≤ op ∧ op ≤ 30) ∧ (0 ≤ a ∧ a ≤ 15) ∧ (0 ≤ b ∧ b ≤ 15) ∧ (0 ≤ c ∧ c ≤ 15) ∧ (-131072 ≤ i ∧ i ≤ 131071) ∧ (c = 0 ∨ i = 0) := by
  obtain ⟨h1, h2, h3, h4, h5⟩ := okIns_iff op a b c i h
  refine ⟨formOf_pos op h1, fits_reg h2, fits_reg h3, fits_reg h4, fits_imm h5, ?_⟩
  · by_cases hc : hasC (formOf op) = true
    · have hi : hasI (formOf op) = false := by unfold hasC at hc; unfold hasI; simp at hc ⊢; omega
      rw [hi] at h5; right; simpa [fits] using h5
    · have hc : hasC (formOf op) = false := by simpa using hc
      rw [hc] at h4; left; simpa [fits] using h4

/-- isa.Encode, whatever the instruction. -/
theorem enc_any (op a b c i : Int) (w : World) (ht : Tab w) :
    Calls Tryd.prog 10 #[.agg #[.int .i64 op, .int .i64 a, .int .i64 b, .int .i64 c, .int .i64 i]] w fun e w' => e = .returned (.tuple #[.int .u32 (if okIns op a b c i then word op a b c i else 0), .int .i64 (if okIns op a b c i then 0 else 21)]) ∧ Below w.heap.size w w' := by
  have H := encH op a b c i
  by_cases ho : okIns op a b c i = true
  · obtain ⟨h1, h2, h3, h4, h5⟩ := okIns_iff op a b c i ho
    obtain ⟨⟨o0, o1⟩, ⟨a0, a1⟩, ⟨b0, b1⟩, ⟨c0, c1⟩, ⟨i0, i1⟩, hci⟩ := okIns_bounds op a b c i ho
    rw [h2, h3, h4, h5] at H
    rw [ho]
    exact enc_yes op a b c i _ _ _ _ _ w ht H (by simpa using h1) o0 o1 a0 a1 b0 b1 c0 c1 i0 i1 hci
  · have ho : okIns op a b c i = false := by simpa using ho
    rw [ho]
    refine enc_no op a b c i _ _ _ _ _ _ _ _ _ w ht H ?_
    unfold okIns at ho
    simp only [Bool.and_eq_false_iff, decide_eq_false_iff_not, ne_eq, Decidable.not_not] at ho
    rcases ho with (((h | h) | h) | h) | h
    · exact Or.inl h
    · exact Or.inr (Or.inl h)
    · exact Or.inr (Or.inr (Or.inl h))
    · exact Or.inr (Or.inr (Or.inr (Or.inl h)))
    · exact Or.inr (Or.inr (Or.inr (Or.inr h)))

end Go.Proofs.YtdoighcgfbnigaaDoor.Isa
