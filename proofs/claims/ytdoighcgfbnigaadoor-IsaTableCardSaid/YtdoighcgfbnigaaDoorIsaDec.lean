import Derived.Test.YtdoighcgfbnigaaDoorIsaEnc
namespace Go.Proofs.YtdoighcgfbnigaaDoor.Isa
set_option linter.unusedVariables false
set_option linter.unusedSimpArgs false
open Go.RowKit Go.Proofs.YtdoighcgfbnigaaDoorW.PrintWords Go.Proofs.YtdoighcgfbnigaaDoorW.PrintLast Go.Proofs.YtdoighcgfbnigaaDoorW.PrintMore

theorem bcell {W w1 : World} (hb : Below W.heap.size W w1) : (∀ b o, b < W.heap.size → w1.cell? ⟨b, o, none⟩ = W.cell? ⟨b, o, none⟩) ∧ (∀ b o, b < W.heap.size → w1.frozen? ⟨b, o, none⟩ = W.frozen? ⟨b, o, none⟩) :=
  ⟨fun b o h => hb.cell (p := ⟨b, o, none⟩) h, fun b o h => hb.frozen (p := ⟨b, o, none⟩) h⟩

theorem Tab.drew {W : World} (h : Tab W) (n : Nat) : Tab (W.drewN n) := h.below (Drawn0.below ⟨n, rfl⟩)
theorem Tab.alloc {W : World} (h : Tab W) (o : Obj) : Tab (W.alloc o) := h.below ((Below.refl _ _).alloc (Nat.le_refl _) _)
theorem Tab.set {W : World} (h : Tab W) (g j : Nat) (v : Value) (hg : 0 < g) : Tab (W.setCell ⟨g, j, none⟩ v) := by
  have hb : Below g W (W.setCell ⟨g, j, none⟩ v) := Below.setCell (Below.refl g W) (show g ≤ (⟨g, j, none⟩ : Addr).block from Nat.le_refl _) v
  exact ⟨fun k hk => (hb.cell (p := ⟨0, k * 3, none⟩) hg).trans (h.nm k hk), fun k hk => (hb.cell (p := ⟨0, k * 3 + 1, none⟩) hg).trans (h.fm k hk), fun k hk => (hb.cell (p := ⟨0, k * 3 + 2, none⟩) hg).trans (h.ct k hk)⟩

theorem ret_i {a a' : Int} (h : a = a') : Ending.returned (.int .i64 a) = Ending.returned (.int .i64 a') := by rw [h]
theorem reg_bits (x p : Nat) (hp : p < 32) (hx : x < 4294967296) : wrap64 (Go.bits .and .u32 ((x : Int) / 2 ^ p) 15) = ((x / 2 ^ p % 16 : Nat) : Int) := by
  have e : ((x : Int) / 2 ^ p) = ((x / 2 ^ p : Nat) : Int) := by simp
  have hl : x / 2 ^ p ≤ x := Nat.div_le_self _ _
  rw [e, show (15 : Int) = ((15 : Nat) : Int) from rfl, u32_and_nat _ _ (by omega) (by omega)]
  have := Nat.and_two_pow_sub_one_eq_mod (x / 2 ^ p) 4
  simp only [show (2 : Nat) ^ 4 - 1 = 15 from rfl, show (2 : Nat) ^ 4 = 16 from rfl] at this
  rw [this]; unfold wrap64; omega

/-- The closure that cuts a register's number out. -/
theorem reg_any (x p : Nat) (g : Nat) (w : World) (hp : p < 32) (hx : x < 4294967296) (hc : w.cell? ⟨g, 0, none⟩ = some (.int .u32 x)) :
    Calls Tryd.prog 27 #[.int .i64 p, .pointer (some ⟨g, 0, none⟩)] w fun e w' => e = .returned (.int .i64 ((x / 2 ^ p % 16 : Nat) : Int)) ∧ w = w' := by
  have HX := Aside0.mk (reg_bits x p hp hx)
  go_enter Tryd.func27, Tryd.ntmps27
  go_wp2
  go_ret
  exact ⟨ret_i HX.out, rfl⟩

/-- The immediate that is cut out of a word, as the code reckons it. -/
abbrev immOf (x : Int) : Int := wrap64 (wrap32 (x * 16384 % 4294967296) / 16384)

/-- The calls that Decode makes, answered. -/
structure DecH (x op a b c f v r : Int) (pa pb pc pi : Bool) : Prop where
  HF : ∀ W, Tab W → Calls Tryd.prog 15 #[.int .i64 op] W fun e w' => e = .returned (.int .i64 f) ∧ Below W.heap.size W w'
  HH : ∀ W, Calls Tryd.prog 23 #[.int .i64 f] W fun e w' => e = .returned (.tuple #[.bool pa, .bool pb, .bool pc, .bool pi]) ∧ Drawn0 W w'
  HA : ∀ (W : World) (g : Nat), W.cell? ⟨g, 0, none⟩ = some (.int .u32 x) → Calls Tryd.prog 27 #[.int .i64 22, .pointer (some ⟨g, 0, none⟩)] W fun e w' => e = .returned (.int .i64 a) ∧ W = w'
  HB : ∀ (W : World) (g : Nat), W.cell? ⟨g, 0, none⟩ = some (.int .u32 x) → Calls Tryd.prog 27 #[.int .i64 18, .pointer (some ⟨g, 0, none⟩)] W fun e w' => e = .returned (.int .i64 b) ∧ W = w'
  HC : ∀ (W : World) (g : Nat), W.cell? ⟨g, 0, none⟩ = some (.int .u32 x) → Calls Tryd.prog 27 #[.int .i64 14, .pointer (some ⟨g, 0, none⟩)] W fun e w' => e = .returned (.int .i64 c) ∧ W = w'
  HE : ∀ W, Tab W → Calls Tryd.prog 10 #[.agg #[.int .i64 op, .int .i64 (cond pa a 0), .int .i64 (cond pb b 0), .int .i64 (cond pc c 0), .int .i64 (cond pi (immOf x) 0)]] W fun e w' => e = .returned (.tuple #[.int .u32 v, .int .i64 r]) ∧ Below W.heap.size W w'

set_option maxHeartbeats 1600000 in
set_option maxRecDepth 100000 in
theorem dec_f1_yes (x a b c f v r : Int) (w : World) (ht : Tab w) (x0 : 0 ≤ x) (x1 : x < 4294967296) (H : DecH x (x / 67108864) a b c f v r false false false false) (hv : (v == x) = true) (hv2 : (v != x) = false) (hr : (r == 0) = true) (hr2 : (r != 0) = false) :
    Calls Tryd.prog 13 #[.int .u32 x] w fun e w' => e = .returned (.tuple #[.agg #[.int .i64 (x / 67108864), .int .i64 (0), .int .i64 (0), .int .i64 (0), .int .i64 (0)], .int .i64 0]) ∧ Below w.heap.size w w' := by
  have hu23 := Tryd.underlying23
  have hz0 : 0 < w.heap.size := World.block_lt_of_cell? w _ (ht.fm 0 (by decide))
  obtain ⟨HF, HH, HA, HB, HC, HE⟩ := H
  simp only [cond_true, cond_false] at HE
  have HF := Aside0.mk HF; have HH := Aside0.mk HH; have HA := Aside0.mk HA; have HB := Aside0.mk HB; have HC := Aside0.mk HC; have HE := Aside0.mk HE
  have ht := Aside0.mk ht
  go_enter Tryd.func13, Tryd.ntmps13
  go_wp2_with (first | (go_at_call 15; (with_reducible refine (HF.out _ (by repeat (first | exact ht.out | apply Tab.drew | apply Tab.alloc))).mono ?_); rintro e w1 ⟨rfl, hb⟩; have HT := Aside0.mk (Tab.below (by repeat (first | exact ht.out | apply Tab.drew | apply Tab.alloc)) hb); obtain ⟨hc, hf⟩ := bcell hb; have hz : w.heap.size + 2 < w1.heap.size := (by have := hb.size; simp at this; omega); have hz3 : w.heap.size < w1.heap.size := (by omega); have hz4 : w.heap.size + 1 < w1.heap.size := (by omega); have hz5 : w.heap.size + 1 + 1 < w1.heap.size := (by omega); have HB1 := Aside0.mk hb; clear hb) | (go_at_call 23; (with_reducible refine (HH.out _).mono ?_); rintro e w' ⟨rfl, ⟨n, rfl⟩⟩) | (go_at_call 27; first | ((with_reducible refine (HA.out _ _ ?_).mono ?_); go_simp; rintro e w' ⟨rfl, rfl⟩) | ((with_reducible refine (HB.out _ _ ?_).mono ?_); go_simp; rintro e w' ⟨rfl, rfl⟩) | ((with_reducible refine (HC.out _ _ ?_).mono ?_); go_simp; rintro e w' ⟨rfl, rfl⟩)) | (go_at_call 10; (with_reducible refine (HE.out _ (by repeat (first | exact HT.out | apply Tab.drew | (refine Tab.set ?_ _ _ _ (by omega))))).mono ?_); rintro e w2 ⟨rfl, hb⟩; have hbc := bcell hb; have hc2 : ∀ b o, b < w1.heap.size → w2.cell? ⟨b, o, none⟩ = w1.cell? ⟨b, o, none⟩ := (fun b o h => hbc.1 b o h); have hf2 : ∀ b o, b < w1.heap.size → w2.frozen? ⟨b, o, none⟩ = w1.frozen? ⟨b, o, none⟩ := (fun b o h => hbc.2 b o h); clear hbc; have hz2 : w.heap.size + 2 < w2.heap.size := (by have := hb.size; simp at this; omega); have hy3 : w.heap.size < w2.heap.size := (by omega); have hy4 : w.heap.size + 1 < w2.heap.size := (by omega); have hy5 : w.heap.size + 1 + 1 < w2.heap.size := (by omega); have HB2 := Aside0.mk hb; clear hb))
  refine bodyPost_ret (v := .tuple #[.agg #[.int .i64 (x / 67108864), .int .i64 (0), .int .i64 (0), .int .i64 (0), .int .i64 (0)], .int .i64 0]) (by simp [results, Tryd.results13, go_sem, hc2, hf2, hz2, hz3, hz4, hz5, hy3, hy4, hy5, hc, hf, hz]) rfl ⟨rfl, ?_⟩
  repeat (first | (with_reducible exact Below.refl _ _) | (with_reducible refine below_set ?_ (by omega)) | (with_reducible refine Below.trans ?_ (HB2.out.mono (by simp; omega))) | (with_reducible refine Below.trans ?_ (HB1.out.mono (by simp; omega))) | (with_reducible apply pw_below_drewN) | (with_reducible apply below_alloc))

set_option maxHeartbeats 1600000 in
set_option maxRecDepth 100000 in
theorem dec_f1_nor (x a b c f v r : Int) (w : World) (ht : Tab w) (x0 : 0 ≤ x) (x1 : x < 4294967296) (H : DecH x (x / 67108864) a b c f v r false false false false) (hr : (r == 0) = false) (hr2 : (r != 0) = true) :
    Calls Tryd.prog 13 #[.int .u32 x] w fun e w' => e = .returned (.tuple #[.agg #[.int .i64 0, .int .i64 0, .int .i64 0, .int .i64 0, .int .i64 0], .int .i64 20]) ∧ Below w.heap.size w w' := by
  have hu23 := Tryd.underlying23
  have hz0 : 0 < w.heap.size := World.block_lt_of_cell? w _ (ht.fm 0 (by decide))
  obtain ⟨HF, HH, HA, HB, HC, HE⟩ := H
  simp only [cond_true, cond_false] at HE
  have HF := Aside0.mk HF; have HH := Aside0.mk HH; have HA := Aside0.mk HA; have HB := Aside0.mk HB; have HC := Aside0.mk HC; have HE := Aside0.mk HE
  have ht := Aside0.mk ht
  go_enter Tryd.func13, Tryd.ntmps13
  go_wp2_with (first | (go_at_call 15; (with_reducible refine (HF.out _ (by repeat (first | exact ht.out | apply Tab.drew | apply Tab.alloc))).mono ?_); rintro e w1 ⟨rfl, hb⟩; have HT := Aside0.mk (Tab.below (by repeat (first | exact ht.out | apply Tab.drew | apply Tab.alloc)) hb); obtain ⟨hc, hf⟩ := bcell hb; have hz : w.heap.size + 2 < w1.heap.size := (by have := hb.size; simp at this; omega); have hz3 : w.heap.size < w1.heap.size := (by omega); have hz4 : w.heap.size + 1 < w1.heap.size := (by omega); have hz5 : w.heap.size + 1 + 1 < w1.heap.size := (by omega); have HB1 := Aside0.mk hb; clear hb) | (go_at_call 23; (with_reducible refine (HH.out _).mono ?_); rintro e w' ⟨rfl, ⟨n, rfl⟩⟩) | (go_at_call 27; first | ((with_reducible refine (HA.out _ _ ?_).mono ?_); go_simp; rintro e w' ⟨rfl, rfl⟩) | ((with_reducible refine (HB.out _ _ ?_).mono ?_); go_simp; rintro e w' ⟨rfl, rfl⟩) | ((with_reducible refine (HC.out _ _ ?_).mono ?_); go_simp; rintro e w' ⟨rfl, rfl⟩)) | (go_at_call 10; (with_reducible refine (HE.out _ (by repeat (first | exact HT.out | apply Tab.drew | (refine Tab.set ?_ _ _ _ (by omega))))).mono ?_); rintro e w2 ⟨rfl, hb⟩; have hbc := bcell hb; have hc2 : ∀ b o, b < w1.heap.size → w2.cell? ⟨b, o, none⟩ = w1.cell? ⟨b, o, none⟩ := (fun b o h => hbc.1 b o h); have hf2 : ∀ b o, b < w1.heap.size → w2.frozen? ⟨b, o, none⟩ = w1.frozen? ⟨b, o, none⟩ := (fun b o h => hbc.2 b o h); clear hbc; have hz2 : w.heap.size + 2 < w2.heap.size := (by have := hb.size; simp at this; omega); have hy3 : w.heap.size < w2.heap.size := (by omega); have hy4 : w.heap.size + 1 < w2.heap.size := (by omega); have hy5 : w.heap.size + 1 + 1 < w2.heap.size := (by omega); have HB2 := Aside0.mk hb; clear hb))
  refine bodyPost_ret (v := .tuple #[.agg #[.int .i64 0, .int .i64 0, .int .i64 0, .int .i64 0, .int .i64 0], .int .i64 20]) (by simp [results, Tryd.results13, go_sem, hc2, hf2, hz2, hz3, hz4, hz5, hy3, hy4, hy5, hc, hf, hz]) rfl ⟨rfl, ?_⟩
  repeat (first | (with_reducible exact Below.refl _ _) | (with_reducible refine below_set ?_ (by omega)) | (with_reducible refine Below.trans ?_ (HB2.out.mono (by simp; omega))) | (with_reducible refine Below.trans ?_ (HB1.out.mono (by simp; omega))) | (with_reducible apply pw_below_drewN) | (with_reducible apply below_alloc))

set_option maxHeartbeats 1600000 in
set_option maxRecDepth 100000 in
theorem dec_f1_nov (x a b c f v r : Int) (w : World) (ht : Tab w) (x0 : 0 ≤ x) (x1 : x < 4294967296) (H : DecH x (x / 67108864) a b c f v r false false false false) (hv : (v == x) = false) (hv2 : (v != x) = true) (hr : (r == 0) = true) (hr2 : (r != 0) = false) :
    Calls Tryd.prog 13 #[.int .u32 x] w fun e w' => e = .returned (.tuple #[.agg #[.int .i64 0, .int .i64 0, .int .i64 0, .int .i64 0, .int .i64 0], .int .i64 20]) ∧ Below w.heap.size w w' := by
  have hu23 := Tryd.underlying23
  have hz0 : 0 < w.heap.size := World.block_lt_of_cell? w _ (ht.fm 0 (by decide))
  obtain ⟨HF, HH, HA, HB, HC, HE⟩ := H
  simp only [cond_true, cond_false] at HE
  have HF := Aside0.mk HF; have HH := Aside0.mk HH; have HA := Aside0.mk HA; have HB := Aside0.mk HB; have HC := Aside0.mk HC; have HE := Aside0.mk HE
  have ht := Aside0.mk ht
  go_enter Tryd.func13, Tryd.ntmps13
  go_wp2_with (first | (go_at_call 15; (with_reducible refine (HF.out _ (by repeat (first | exact ht.out | apply Tab.drew | apply Tab.alloc))).mono ?_); rintro e w1 ⟨rfl, hb⟩; have HT := Aside0.mk (Tab.below (by repeat (first | exact ht.out | apply Tab.drew | apply Tab.alloc)) hb); obtain ⟨hc, hf⟩ := bcell hb; have hz : w.heap.size + 2 < w1.heap.size := (by have := hb.size; simp at this; omega); have hz3 : w.heap.size < w1.heap.size := (by omega); have hz4 : w.heap.size + 1 < w1.heap.size := (by omega); have hz5 : w.heap.size + 1 + 1 < w1.heap.size := (by omega); have HB1 := Aside0.mk hb; clear hb) | (go_at_call 23; (with_reducible refine (HH.out _).mono ?_); rintro e w' ⟨rfl, ⟨n, rfl⟩⟩) | (go_at_call 27; first | ((with_reducible refine (HA.out _ _ ?_).mono ?_); go_simp; rintro e w' ⟨rfl, rfl⟩) | ((with_reducible refine (HB.out _ _ ?_).mono ?_); go_simp; rintro e w' ⟨rfl, rfl⟩) | ((with_reducible refine (HC.out _ _ ?_).mono ?_); go_simp; rintro e w' ⟨rfl, rfl⟩)) | (go_at_call 10; (with_reducible refine (HE.out _ (by repeat (first | exact HT.out | apply Tab.drew | (refine Tab.set ?_ _ _ _ (by omega))))).mono ?_); rintro e w2 ⟨rfl, hb⟩; have hbc := bcell hb; have hc2 : ∀ b o, b < w1.heap.size → w2.cell? ⟨b, o, none⟩ = w1.cell? ⟨b, o, none⟩ := (fun b o h => hbc.1 b o h); have hf2 : ∀ b o, b < w1.heap.size → w2.frozen? ⟨b, o, none⟩ = w1.frozen? ⟨b, o, none⟩ := (fun b o h => hbc.2 b o h); clear hbc; have hz2 : w.heap.size + 2 < w2.heap.size := (by have := hb.size; simp at this; omega); have hy3 : w.heap.size < w2.heap.size := (by omega); have hy4 : w.heap.size + 1 < w2.heap.size := (by omega); have hy5 : w.heap.size + 1 + 1 < w2.heap.size := (by omega); have HB2 := Aside0.mk hb; clear hb))
  refine bodyPost_ret (v := .tuple #[.agg #[.int .i64 0, .int .i64 0, .int .i64 0, .int .i64 0, .int .i64 0], .int .i64 20]) (by simp [results, Tryd.results13, go_sem, hc2, hf2, hz2, hz3, hz4, hz5, hy3, hy4, hy5, hc, hf, hz]) rfl ⟨rfl, ?_⟩
  repeat (first | (with_reducible exact Below.refl _ _) | (with_reducible refine below_set ?_ (by omega)) | (with_reducible refine Below.trans ?_ (HB2.out.mono (by simp; omega))) | (with_reducible refine Below.trans ?_ (HB1.out.mono (by simp; omega))) | (with_reducible apply pw_below_drewN) | (with_reducible apply below_alloc))

set_option maxHeartbeats 1600000 in
set_option maxRecDepth 100000 in
theorem dec_f2_yes (x a b c f v r : Int) (w : World) (ht : Tab w) (x0 : 0 ≤ x) (x1 : x < 4294967296) (H : DecH x (x / 67108864) a b c f v r true false false false) (hv : (v == x) = true) (hv2 : (v != x) = false) (hr : (r == 0) = true) (hr2 : (r != 0) = false) :
    Calls Tryd.prog 13 #[.int .u32 x] w fun e w' => e = .returned (.tuple #[.agg #[.int .i64 (x / 67108864), .int .i64 (a), .int .i64 (0), .int .i64 (0), .int .i64 (0)], .int .i64 0]) ∧ Below w.heap.size w w' := by
  have hu23 := Tryd.underlying23
  have hz0 : 0 < w.heap.size := World.block_lt_of_cell? w _ (ht.fm 0 (by decide))
  obtain ⟨HF, HH, HA, HB, HC, HE⟩ := H
  simp only [cond_true, cond_false] at HE
  have HF := Aside0.mk HF; have HH := Aside0.mk HH; have HA := Aside0.mk HA; have HB := Aside0.mk HB; have HC := Aside0.mk HC; have HE := Aside0.mk HE
  have ht := Aside0.mk ht
  go_enter Tryd.func13, Tryd.ntmps13
  go_wp2_with (first | (go_at_call 15; (with_reducible refine (HF.out _ (by repeat (first | exact ht.out | apply Tab.drew | apply Tab.alloc))).mono ?_); rintro e w1 ⟨rfl, hb⟩; have HT := Aside0.mk (Tab.below (by repeat (first | exact ht.out | apply Tab.drew | apply Tab.alloc)) hb); obtain ⟨hc, hf⟩ := bcell hb; have hz : w.heap.size + 2 < w1.heap.size := (by have := hb.size; simp at this; omega); have hz3 : w.heap.size < w1.heap.size := (by omega); have hz4 : w.heap.size + 1 < w1.heap.size := (by omega); have hz5 : w.heap.size + 1 + 1 < w1.heap.size := (by omega); have HB1 := Aside0.mk hb; clear hb) | (go_at_call 23; (with_reducible refine (HH.out _).mono ?_); rintro e w' ⟨rfl, ⟨n, rfl⟩⟩) | (go_at_call 27; first | ((with_reducible refine (HA.out _ _ ?_).mono ?_); go_simp; rintro e w' ⟨rfl, rfl⟩) | ((with_reducible refine (HB.out _ _ ?_).mono ?_); go_simp; rintro e w' ⟨rfl, rfl⟩) | ((with_reducible refine (HC.out _ _ ?_).mono ?_); go_simp; rintro e w' ⟨rfl, rfl⟩)) | (go_at_call 10; (with_reducible refine (HE.out _ (by repeat (first | exact HT.out | apply Tab.drew | (refine Tab.set ?_ _ _ _ (by omega))))).mono ?_); rintro e w2 ⟨rfl, hb⟩; obtain ⟨hc2, hf2⟩ := bcell hb; have hz2 : w.heap.size + 2 < w2.heap.size := (by have := hb.size; simp at this; omega); have hy3 : w.heap.size < w2.heap.size := (by omega); have hy4 : w.heap.size + 1 < w2.heap.size := (by omega); have hy5 : w.heap.size + 1 + 1 < w2.heap.size := (by omega); have HB2 := Aside0.mk hb; clear hb))
  refine bodyPost_ret (v := .tuple #[.agg #[.int .i64 (x / 67108864), .int .i64 (a), .int .i64 (0), .int .i64 (0), .int .i64 (0)], .int .i64 0]) (by simp [results, Tryd.results13, go_sem, hc2, hf2, hz2, hz3, hz4, hz5, hy3, hy4, hy5, hc, hf, hz]) rfl ⟨rfl, ?_⟩
  repeat (first | (with_reducible exact Below.refl _ _) | (with_reducible refine below_set ?_ (by omega)) | (with_reducible refine Below.trans ?_ (HB2.out.mono (by simp; omega))) | (with_reducible refine Below.trans ?_ (HB1.out.mono (by simp; omega))) | (with_reducible apply pw_below_drewN) | (with_reducible apply below_alloc))

set_option maxHeartbeats 1600000 in
set_option maxRecDepth 100000 in
theorem dec_f2_nor (x a b c f v r : Int) (w : World) (ht : Tab w) (x0 : 0 ≤ x) (x1 : x < 4294967296) (H : DecH x (x / 67108864) a b c f v r true false false false) (hr : (r == 0) = false) (hr2 : (r != 0) = true) :
    Calls Tryd.prog 13 #[.int .u32 x] w fun e w' => e = .returned (.tuple #[.agg #[.int .i64 0, .int .i64 0, .int .i64 0, .int .i64 0, .int .i64 0], .int .i64 20]) ∧ Below w.heap.size w w' := by
  have hu23 := Tryd.underlying23
  have hz0 : 0 < w.heap.size := World.block_lt_of_cell? w _ (ht.fm 0 (by decide))
  obtain ⟨HF, HH, HA, HB, HC, HE⟩ := H
  simp only [cond_true, cond_false] at HE
  have HF := Aside0.mk HF; have HH := Aside0.mk HH; have HA := Aside0.mk HA; have HB := Aside0.mk HB; have HC := Aside0.mk HC; have HE := Aside0.mk HE
  have ht := Aside0.mk ht
  go_enter Tryd.func13, Tryd.ntmps13
  go_wp2_with (first | (go_at_call 15; (with_reducible refine (HF.out _ (by repeat (first | exact ht.out | apply Tab.drew | apply Tab.alloc))).mono ?_); rintro e w1 ⟨rfl, hb⟩; have HT := Aside0.mk (Tab.below (by repeat (first | exact ht.out | apply Tab.drew | apply Tab.alloc)) hb); obtain ⟨hc, hf⟩ := bcell hb; have hz : w.heap.size + 2 < w1.heap.size := (by have := hb.size; simp at this; omega); have hz3 : w.heap.size < w1.heap.size := (by omega); have hz4 : w.heap.size + 1 < w1.heap.size := (by omega); have hz5 : w.heap.size + 1 + 1 < w1.heap.size := (by omega); have HB1 := Aside0.mk hb; clear hb) | (go_at_call 23; (with_reducible refine (HH.out _).mono ?_); rintro e w' ⟨rfl, ⟨n, rfl⟩⟩) | (go_at_call 27; first | ((with_reducible refine (HA.out _ _ ?_).mono ?_); go_simp; rintro e w' ⟨rfl, rfl⟩) | ((with_reducible refine (HB.out _ _ ?_).mono ?_); go_simp; rintro e w' ⟨rfl, rfl⟩) | ((with_reducible refine (HC.out _ _ ?_).mono ?_); go_simp; rintro e w' ⟨rfl, rfl⟩)) | (go_at_call 10; (with_reducible refine (HE.out _ (by repeat (first | exact HT.out | apply Tab.drew | (refine Tab.set ?_ _ _ _ (by omega))))).mono ?_); rintro e w2 ⟨rfl, hb⟩; obtain ⟨hc2, hf2⟩ := bcell hb; have hz2 : w.heap.size + 2 < w2.heap.size := (by have := hb.size; simp at this; omega); have hy3 : w.heap.size < w2.heap.size := (by omega); have hy4 : w.heap.size + 1 < w2.heap.size := (by omega); have hy5 : w.heap.size + 1 + 1 < w2.heap.size := (by omega); have HB2 := Aside0.mk hb; clear hb))
  refine bodyPost_ret (v := .tuple #[.agg #[.int .i64 0, .int .i64 0, .int .i64 0, .int .i64 0, .int .i64 0], .int .i64 20]) (by simp [results, Tryd.results13, go_sem, hc2, hf2, hz2, hz3, hz4, hz5, hy3, hy4, hy5, hc, hf, hz]) rfl ⟨rfl, ?_⟩
  repeat (first | (with_reducible exact Below.refl _ _) | (with_reducible refine below_set ?_ (by omega)) | (with_reducible refine Below.trans ?_ (HB2.out.mono (by simp; omega))) | (with_reducible refine Below.trans ?_ (HB1.out.mono (by simp; omega))) | (with_reducible apply pw_below_drewN) | (with_reducible apply below_alloc))

set_option maxHeartbeats 1600000 in
set_option maxRecDepth 100000 in
theorem dec_f2_nov (x a b c f v r : Int) (w : World) (ht : Tab w) (x0 : 0 ≤ x) (x1 : x < 4294967296) (H : DecH x (x / 67108864) a b c f v r true false false false) (hv : (v == x) = false) (hv2 : (v != x) = true) (hr : (r == 0) = true) (hr2 : (r != 0) = false) :
    Calls Tryd.prog 13 #[.int .u32 x] w fun e w' => e = .returned (.tuple #[.agg #[.int .i64 0, .int .i64 0, .int .i64 0, .int .i64 0, .int .i64 0], .int .i64 20]) ∧ Below w.heap.size w w' := by
  have hu23 := Tryd.underlying23
  have hz0 : 0 < w.heap.size := World.block_lt_of_cell? w _ (ht.fm 0 (by decide))
  obtain ⟨HF, HH, HA, HB, HC, HE⟩ := H
  simp only [cond_true, cond_false] at HE
  have HF := Aside0.mk HF; have HH := Aside0.mk HH; have HA := Aside0.mk HA; have HB := Aside0.mk HB; have HC := Aside0.mk HC; have HE := Aside0.mk HE
  have ht := Aside0.mk ht
  go_enter Tryd.func13, Tryd.ntmps13
  go_wp2_with (first | (go_at_call 15; (with_reducible refine (HF.out _ (by repeat (first | exact ht.out | apply Tab.drew | apply Tab.alloc))).mono ?_); rintro e w1 ⟨rfl, hb⟩; have HT := Aside0.mk (Tab.below (by repeat (first | exact ht.out | apply Tab.drew | apply Tab.alloc)) hb); obtain ⟨hc, hf⟩ := bcell hb; have hz : w.heap.size + 2 < w1.heap.size := (by have := hb.size; simp at this; omega); have hz3 : w.heap.size < w1.heap.size := (by omega); have hz4 : w.heap.size + 1 < w1.heap.size := (by omega); have hz5 : w.heap.size + 1 + 1 < w1.heap.size := (by omega); have HB1 := Aside0.mk hb; clear hb) | (go_at_call 23; (with_reducible refine (HH.out _).mono ?_); rintro e w' ⟨rfl, ⟨n, rfl⟩⟩) | (go_at_call 27; first | ((with_reducible refine (HA.out _ _ ?_).mono ?_); go_simp; rintro e w' ⟨rfl, rfl⟩) | ((with_reducible refine (HB.out _ _ ?_).mono ?_); go_simp; rintro e w' ⟨rfl, rfl⟩) | ((with_reducible refine (HC.out _ _ ?_).mono ?_); go_simp; rintro e w' ⟨rfl, rfl⟩)) | (go_at_call 10; (with_reducible refine (HE.out _ (by repeat (first | exact HT.out | apply Tab.drew | (refine Tab.set ?_ _ _ _ (by omega))))).mono ?_); rintro e w2 ⟨rfl, hb⟩; obtain ⟨hc2, hf2⟩ := bcell hb; have hz2 : w.heap.size + 2 < w2.heap.size := (by have := hb.size; simp at this; omega); have hy3 : w.heap.size < w2.heap.size := (by omega); have hy4 : w.heap.size + 1 < w2.heap.size := (by omega); have hy5 : w.heap.size + 1 + 1 < w2.heap.size := (by omega); have HB2 := Aside0.mk hb; clear hb))
  refine bodyPost_ret (v := .tuple #[.agg #[.int .i64 0, .int .i64 0, .int .i64 0, .int .i64 0, .int .i64 0], .int .i64 20]) (by simp [results, Tryd.results13, go_sem, hc2, hf2, hz2, hz3, hz4, hz5, hy3, hy4, hy5, hc, hf, hz]) rfl ⟨rfl, ?_⟩
  repeat (first | (with_reducible exact Below.refl _ _) | (with_reducible refine below_set ?_ (by omega)) | (with_reducible refine Below.trans ?_ (HB2.out.mono (by simp; omega))) | (with_reducible refine Below.trans ?_ (HB1.out.mono (by simp; omega))) | (with_reducible apply pw_below_drewN) | (with_reducible apply below_alloc))

set_option maxHeartbeats 1600000 in
set_option maxRecDepth 100000 in
theorem dec_f3_yes (x a b c f v r : Int) (w : World) (ht : Tab w) (x0 : 0 ≤ x) (x1 : x < 4294967296) (H : DecH x (x / 67108864) a b c f v r true true false false) (hv : (v == x) = true) (hv2 : (v != x) = false) (hr : (r == 0) = true) (hr2 : (r != 0) = false) :
    Calls Tryd.prog 13 #[.int .u32 x] w fun e w' => e = .returned (.tuple #[.agg #[.int .i64 (x / 67108864), .int .i64 (a), .int .i64 (b), .int .i64 (0), .int .i64 (0)], .int .i64 0]) ∧ Below w.heap.size w w' := by
  have hu23 := Tryd.underlying23
  have hz0 : 0 < w.heap.size := World.block_lt_of_cell? w _ (ht.fm 0 (by decide))
  obtain ⟨HF, HH, HA, HB, HC, HE⟩ := H
  simp only [cond_true, cond_false] at HE
  have HF := Aside0.mk HF; have HH := Aside0.mk HH; have HA := Aside0.mk HA; have HB := Aside0.mk HB; have HC := Aside0.mk HC; have HE := Aside0.mk HE
  have ht := Aside0.mk ht
  go_enter Tryd.func13, Tryd.ntmps13
  go_wp2_with (first | (go_at_call 15; (with_reducible refine (HF.out _ (by repeat (first | exact ht.out | apply Tab.drew | apply Tab.alloc))).mono ?_); rintro e w1 ⟨rfl, hb⟩; have HT := Aside0.mk (Tab.below (by repeat (first | exact ht.out | apply Tab.drew | apply Tab.alloc)) hb); obtain ⟨hc, hf⟩ := bcell hb; have hz : w.heap.size + 2 < w1.heap.size := (by have := hb.size; simp at this; omega); have hz3 : w.heap.size < w1.heap.size := (by omega); have hz4 : w.heap.size + 1 < w1.heap.size := (by omega); have hz5 : w.heap.size + 1 + 1 < w1.heap.size := (by omega); have HB1 := Aside0.mk hb; clear hb) | (go_at_call 23; (with_reducible refine (HH.out _).mono ?_); rintro e w' ⟨rfl, ⟨n, rfl⟩⟩) | (go_at_call 27; first | ((with_reducible refine (HA.out _ _ ?_).mono ?_); go_simp; rintro e w' ⟨rfl, rfl⟩) | ((with_reducible refine (HB.out _ _ ?_).mono ?_); go_simp; rintro e w' ⟨rfl, rfl⟩) | ((with_reducible refine (HC.out _ _ ?_).mono ?_); go_simp; rintro e w' ⟨rfl, rfl⟩)) | (go_at_call 10; (with_reducible refine (HE.out _ (by repeat (first | exact HT.out | apply Tab.drew | (refine Tab.set ?_ _ _ _ (by omega))))).mono ?_); rintro e w2 ⟨rfl, hb⟩; obtain ⟨hc2, hf2⟩ := bcell hb; have hz2 : w.heap.size + 2 < w2.heap.size := (by have := hb.size; simp at this; omega); have hy3 : w.heap.size < w2.heap.size := (by omega); have hy4 : w.heap.size + 1 < w2.heap.size := (by omega); have hy5 : w.heap.size + 1 + 1 < w2.heap.size := (by omega); have HB2 := Aside0.mk hb; clear hb))
  refine bodyPost_ret (v := .tuple #[.agg #[.int .i64 (x / 67108864), .int .i64 (a), .int .i64 (b), .int .i64 (0), .int .i64 (0)], .int .i64 0]) (by simp [results, Tryd.results13, go_sem, hc2, hf2, hz2, hz3, hz4, hz5, hy3, hy4, hy5, hc, hf, hz]) rfl ⟨rfl, ?_⟩
  repeat (first | (with_reducible exact Below.refl _ _) | (with_reducible refine below_set ?_ (by omega)) | (with_reducible refine Below.trans ?_ (HB2.out.mono (by simp; omega))) | (with_reducible refine Below.trans ?_ (HB1.out.mono (by simp; omega))) | (with_reducible apply pw_below_drewN) | (with_reducible apply below_alloc))

set_option maxHeartbeats 1600000 in
set_option maxRecDepth 100000 in
theorem dec_f3_nor (x a b c f v r : Int) (w : World) (ht : Tab w) (x0 : 0 ≤ x) (x1 : x < 4294967296) (H : DecH x (x / 67108864) a b c f v r true true false false) (hr : (r == 0) = false) (hr2 : (r != 0) = true) :
    Calls Tryd.prog 13 #[.int .u32 x] w fun e w' => e = .returned (.tuple #[.agg #[.int .i64 0, .int .i64 0, .int .i64 0, .int .i64 0, .int .i64 0], .int .i64 20]) ∧ Below w.heap.size w w' := by
  have hu23 := Tryd.underlying23
  have hz0 : 0 < w.heap.size := World.block_lt_of_cell? w _ (ht.fm 0 (by decide))
  obtain ⟨HF, HH, HA, HB, HC, HE⟩ := H
  simp only [cond_true, cond_false] at HE
  have HF := Aside0.mk HF; have HH := Aside0.mk HH; have HA := Aside0.mk HA; have HB := Aside0.mk HB; have HC := Aside0.mk HC; have HE := Aside0.mk HE
  have ht := Aside0.mk ht
  go_enter Tryd.func13, Tryd.ntmps13
  go_wp2_with (first | (go_at_call 15; (with_reducible refine (HF.out _ (by repeat (first | exact ht.out | apply Tab.drew | apply Tab.alloc))).mono ?_); rintro e w1 ⟨rfl, hb⟩; have HT := Aside0.mk (Tab.below (by repeat (first | exact ht.out | apply Tab.drew | apply Tab.alloc)) hb); obtain ⟨hc, hf⟩ := bcell hb; have hz : w.heap.size + 2 < w1.heap.size := (by have := hb.size; simp at this; omega); have hz3 : w.heap.size < w1.heap.size := (by omega); have hz4 : w.heap.size + 1 < w1.heap.size := (by omega); have hz5 : w.heap.size + 1 + 1 < w1.heap.size := (by omega); have HB1 := Aside0.mk hb; clear hb) | (go_at_call 23; (with_reducible refine (HH.out _).mono ?_); rintro e w' ⟨rfl, ⟨n, rfl⟩⟩) | (go_at_call 27; first | ((with_reducible refine (HA.out _ _ ?_).mono ?_); go_simp; rintro e w' ⟨rfl, rfl⟩) | ((with_reducible refine (HB.out _ _ ?_).mono ?_); go_simp; rintro e w' ⟨rfl, rfl⟩) | ((with_reducible refine (HC.out _ _ ?_).mono ?_); go_simp; rintro e w' ⟨rfl, rfl⟩)) | (go_at_call 10; (with_reducible refine (HE.out _ (by repeat (first | exact HT.out | apply Tab.drew | (refine Tab.set ?_ _ _ _ (by omega))))).mono ?_); rintro e w2 ⟨rfl, hb⟩; obtain ⟨hc2, hf2⟩ := bcell hb; have hz2 : w.heap.size + 2 < w2.heap.size := (by have := hb.size; simp at this; omega); have hy3 : w.heap.size < w2.heap.size := (by omega); have hy4 : w.heap.size + 1 < w2.heap.size := (by omega); have hy5 : w.heap.size + 1 + 1 < w2.heap.size := (by omega); have HB2 := Aside0.mk hb; clear hb))
  refine bodyPost_ret (v := .tuple #[.agg #[.int .i64 0, .int .i64 0, .int .i64 0, .int .i64 0, .int .i64 0], .int .i64 20]) (by simp [results, Tryd.results13, go_sem, hc2, hf2, hz2, hz3, hz4, hz5, hy3, hy4, hy5, hc, hf, hz]) rfl ⟨rfl, ?_⟩
  repeat (first | (with_reducible exact Below.refl _ _) | (with_reducible refine below_set ?_ (by omega)) | (with_reducible refine Below.trans ?_ (HB2.out.mono (by simp; omega))) | (with_reducible refine Below.trans ?_ (HB1.out.mono (by simp; omega))) | (with_reducible apply pw_below_drewN) | (with_reducible apply below_alloc))

set_option maxHeartbeats 1600000 in
set_option maxRecDepth 100000 in
theorem dec_f3_nov (x a b c f v r : Int) (w : World) (ht : Tab w) (x0 : 0 ≤ x) (x1 : x < 4294967296) (H : DecH x (x / 67108864) a b c f v r true true false false) (hv : (v == x) = false) (hv2 : (v != x) = true) (hr : (r == 0) = true) (hr2 : (r != 0) = false) :
    Calls Tryd.prog 13 #[.int .u32 x] w fun e w' => e = .returned (.tuple #[.agg #[.int .i64 0, .int .i64 0, .int .i64 0, .int .i64 0, .int .i64 0], .int .i64 20]) ∧ Below w.heap.size w w' := by
  have hu23 := Tryd.underlying23
  have hz0 : 0 < w.heap.size := World.block_lt_of_cell? w _ (ht.fm 0 (by decide))
  obtain ⟨HF, HH, HA, HB, HC, HE⟩ := H
  simp only [cond_true, cond_false] at HE
  have HF := Aside0.mk HF; have HH := Aside0.mk HH; have HA := Aside0.mk HA; have HB := Aside0.mk HB; have HC := Aside0.mk HC; have HE := Aside0.mk HE
  have ht := Aside0.mk ht
  go_enter Tryd.func13, Tryd.ntmps13
  go_wp2_with (first | (go_at_call 15; (with_reducible refine (HF.out _ (by repeat (first | exact ht.out | apply Tab.drew | apply Tab.alloc))).mono ?_); rintro e w1 ⟨rfl, hb⟩; have HT := Aside0.mk (Tab.below (by repeat (first | exact ht.out | apply Tab.drew | apply Tab.alloc)) hb); obtain ⟨hc, hf⟩ := bcell hb; have hz : w.heap.size + 2 < w1.heap.size := (by have := hb.size; simp at this; omega); have hz3 : w.heap.size < w1.heap.size := (by omega); have hz4 : w.heap.size + 1 < w1.heap.size := (by omega); have hz5 : w.heap.size + 1 + 1 < w1.heap.size := (by omega); have HB1 := Aside0.mk hb; clear hb) | (go_at_call 23; (with_reducible refine (HH.out _).mono ?_); rintro e w' ⟨rfl, ⟨n, rfl⟩⟩) | (go_at_call 27; first | ((with_reducible refine (HA.out _ _ ?_).mono ?_); go_simp; rintro e w' ⟨rfl, rfl⟩) | ((with_reducible refine (HB.out _ _ ?_).mono ?_); go_simp; rintro e w' ⟨rfl, rfl⟩) | ((with_reducible refine (HC.out _ _ ?_).mono ?_); go_simp; rintro e w' ⟨rfl, rfl⟩)) | (go_at_call 10; (with_reducible refine (HE.out _ (by repeat (first | exact HT.out | apply Tab.drew | (refine Tab.set ?_ _ _ _ (by omega))))).mono ?_); rintro e w2 ⟨rfl, hb⟩; obtain ⟨hc2, hf2⟩ := bcell hb; have hz2 : w.heap.size + 2 < w2.heap.size := (by have := hb.size; simp at this; omega); have hy3 : w.heap.size < w2.heap.size := (by omega); have hy4 : w.heap.size + 1 < w2.heap.size := (by omega); have hy5 : w.heap.size + 1 + 1 < w2.heap.size := (by omega); have HB2 := Aside0.mk hb; clear hb))
  refine bodyPost_ret (v := .tuple #[.agg #[.int .i64 0, .int .i64 0, .int .i64 0, .int .i64 0, .int .i64 0], .int .i64 20]) (by simp [results, Tryd.results13, go_sem, hc2, hf2, hz2, hz3, hz4, hz5, hy3, hy4, hy5, hc, hf, hz]) rfl ⟨rfl, ?_⟩
  repeat (first | (with_reducible exact Below.refl _ _) | (with_reducible refine below_set ?_ (by omega)) | (with_reducible refine Below.trans ?_ (HB2.out.mono (by simp; omega))) | (with_reducible refine Below.trans ?_ (HB1.out.mono (by simp; omega))) | (with_reducible apply pw_below_drewN) | (with_reducible apply below_alloc))

set_option maxHeartbeats 1600000 in
set_option maxRecDepth 100000 in
theorem dec_f4_yes (x a b c f v r : Int) (w : World) (ht : Tab w) (x0 : 0 ≤ x) (x1 : x < 4294967296) (H : DecH x (x / 67108864) a b c f v r true true true false) (hv : (v == x) = true) (hv2 : (v != x) = false) (hr : (r == 0) = true) (hr2 : (r != 0) = false) :
    Calls Tryd.prog 13 #[.int .u32 x] w fun e w' => e = .returned (.tuple #[.agg #[.int .i64 (x / 67108864), .int .i64 (a), .int .i64 (b), .int .i64 (c), .int .i64 (0)], .int .i64 0]) ∧ Below w.heap.size w w' := by
  have hu23 := Tryd.underlying23
  have hz0 : 0 < w.heap.size := World.block_lt_of_cell? w _ (ht.fm 0 (by decide))
  obtain ⟨HF, HH, HA, HB, HC, HE⟩ := H
  simp only [cond_true, cond_false] at HE
  have HF := Aside0.mk HF; have HH := Aside0.mk HH; have HA := Aside0.mk HA; have HB := Aside0.mk HB; have HC := Aside0.mk HC; have HE := Aside0.mk HE
  have ht := Aside0.mk ht
  go_enter Tryd.func13, Tryd.ntmps13
  go_wp2_with (first | (go_at_call 15; (with_reducible refine (HF.out _ (by repeat (first | exact ht.out | apply Tab.drew | apply Tab.alloc))).mono ?_); rintro e w1 ⟨rfl, hb⟩; have HT := Aside0.mk (Tab.below (by repeat (first | exact ht.out | apply Tab.drew | apply Tab.alloc)) hb); obtain ⟨hc, hf⟩ := bcell hb; have hz : w.heap.size + 2 < w1.heap.size := (by have := hb.size; simp at this; omega); have hz3 : w.heap.size < w1.heap.size := (by omega); have hz4 : w.heap.size + 1 < w1.heap.size := (by omega); have hz5 : w.heap.size + 1 + 1 < w1.heap.size := (by omega); have HB1 := Aside0.mk hb; clear hb) | (go_at_call 23; (with_reducible refine (HH.out _).mono ?_); rintro e w' ⟨rfl, ⟨n, rfl⟩⟩) | (go_at_call 27; first | ((with_reducible refine (HA.out _ _ ?_).mono ?_); go_simp; rintro e w' ⟨rfl, rfl⟩) | ((with_reducible refine (HB.out _ _ ?_).mono ?_); go_simp; rintro e w' ⟨rfl, rfl⟩) | ((with_reducible refine (HC.out _ _ ?_).mono ?_); go_simp; rintro e w' ⟨rfl, rfl⟩)) | (go_at_call 10; (with_reducible refine (HE.out _ (by repeat (first | exact HT.out | apply Tab.drew | (refine Tab.set ?_ _ _ _ (by omega))))).mono ?_); rintro e w2 ⟨rfl, hb⟩; obtain ⟨hc2, hf2⟩ := bcell hb; have hz2 : w.heap.size + 2 < w2.heap.size := (by have := hb.size; simp at this; omega); have hy3 : w.heap.size < w2.heap.size := (by omega); have hy4 : w.heap.size + 1 < w2.heap.size := (by omega); have hy5 : w.heap.size + 1 + 1 < w2.heap.size := (by omega); have HB2 := Aside0.mk hb; clear hb))
  refine bodyPost_ret (v := .tuple #[.agg #[.int .i64 (x / 67108864), .int .i64 (a), .int .i64 (b), .int .i64 (c), .int .i64 (0)], .int .i64 0]) (by simp [results, Tryd.results13, go_sem, hc2, hf2, hz2, hz3, hz4, hz5, hy3, hy4, hy5, hc, hf, hz]) rfl ⟨rfl, ?_⟩
  repeat (first | (with_reducible exact Below.refl _ _) | (with_reducible refine below_set ?_ (by omega)) | (with_reducible refine Below.trans ?_ (HB2.out.mono (by simp; omega))) | (with_reducible refine Below.trans ?_ (HB1.out.mono (by simp; omega))) | (with_reducible apply pw_below_drewN) | (with_reducible apply below_alloc))

set_option maxHeartbeats 1600000 in
set_option maxRecDepth 100000 in
theorem dec_f4_nor (x a b c f v r : Int) (w : World) (ht : Tab w) (x0 : 0 ≤ x) (x1 : x < 4294967296) (H : DecH x (x / 67108864) a b c f v r true true true false) (hr : (r == 0) = false) (hr2 : (r != 0) = true) :
    Calls Tryd.prog 13 #[.int .u32 x] w fun e w' => e = .returned (.tuple #[.agg #[.int .i64 0, .int .i64 0, .int .i64 0, .int .i64 0, .int .i64 0], .int .i64 20]) ∧ Below w.heap.size w w' := by
  have hu23 := Tryd.underlying23
  have hz0 : 0 < w.heap.size := World.block_lt_of_cell? w _ (ht.fm 0 (by decide))
  obtain ⟨HF, HH, HA, HB, HC, HE⟩ := H
  simp only [cond_true, cond_false] at HE
  have HF := Aside0.mk HF; have HH := Aside0.mk HH; have HA := Aside0.mk HA; have HB := Aside0.mk HB; have HC := Aside0.mk HC; have HE := Aside0.mk HE
  have ht := Aside0.mk ht
  go_enter Tryd.func13, Tryd.ntmps13
  go_wp2_with (first | (go_at_call 15; (with_reducible refine (HF.out _ (by repeat (first | exact ht.out | apply Tab.drew | apply Tab.alloc))).mono ?_); rintro e w1 ⟨rfl, hb⟩; have HT := Aside0.mk (Tab.below (by repeat (first | exact ht.out | apply Tab.drew | apply Tab.alloc)) hb); obtain ⟨hc, hf⟩ := bcell hb; have hz : w.heap.size + 2 < w1.heap.size := (by have := hb.size; simp at this; omega); have hz3 : w.heap.size < w1.heap.size := (by omega); have hz4 : w.heap.size + 1 < w1.heap.size := (by omega); have hz5 : w.heap.size + 1 + 1 < w1.heap.size := (by omega); have HB1 := Aside0.mk hb; clear hb) | (go_at_call 23; (with_reducible refine (HH.out _).mono ?_); rintro e w' ⟨rfl, ⟨n, rfl⟩⟩) | (go_at_call 27; first | ((with_reducible refine (HA.out _ _ ?_).mono ?_); go_simp; rintro e w' ⟨rfl, rfl⟩) | ((with_reducible refine (HB.out _ _ ?_).mono ?_); go_simp; rintro e w' ⟨rfl, rfl⟩) | ((with_reducible refine (HC.out _ _ ?_).mono ?_); go_simp; rintro e w' ⟨rfl, rfl⟩)) | (go_at_call 10; (with_reducible refine (HE.out _ (by repeat (first | exact HT.out | apply Tab.drew | (refine Tab.set ?_ _ _ _ (by omega))))).mono ?_); rintro e w2 ⟨rfl, hb⟩; obtain ⟨hc2, hf2⟩ := bcell hb; have hz2 : w.heap.size + 2 < w2.heap.size := (by have := hb.size; simp at this; omega); have hy3 : w.heap.size < w2.heap.size := (by omega); have hy4 : w.heap.size + 1 < w2.heap.size := (by omega); have hy5 : w.heap.size + 1 + 1 < w2.heap.size := (by omega); have HB2 := Aside0.mk hb; clear hb))
  refine bodyPost_ret (v := .tuple #[.agg #[.int .i64 0, .int .i64 0, .int .i64 0, .int .i64 0, .int .i64 0], .int .i64 20]) (by simp [results, Tryd.results13, go_sem, hc2, hf2, hz2, hz3, hz4, hz5, hy3, hy4, hy5, hc, hf, hz]) rfl ⟨rfl, ?_⟩
  repeat (first | (with_reducible exact Below.refl _ _) | (with_reducible refine below_set ?_ (by omega)) | (with_reducible refine Below.trans ?_ (HB2.out.mono (by simp; omega))) | (with_reducible refine Below.trans ?_ (HB1.out.mono (by simp; omega))) | (with_reducible apply pw_below_drewN) | (with_reducible apply below_alloc))

set_option maxHeartbeats 1600000 in
set_option maxRecDepth 100000 in
theorem dec_f4_nov (x a b c f v r : Int) (w : World) (ht : Tab w) (x0 : 0 ≤ x) (x1 : x < 4294967296) (H : DecH x (x / 67108864) a b c f v r true true true false) (hv : (v == x) = false) (hv2 : (v != x) = true) (hr : (r == 0) = true) (hr2 : (r != 0) = false) :
    Calls Tryd.prog 13 #[.int .u32 x] w fun e w' => e = .returned (.tuple #[.agg #[.int .i64 0, .int .i64 0, .int .i64 0, .int .i64 0, .int .i64 0], .int .i64 20]) ∧ Below w.heap.size w w' := by
  have hu23 := Tryd.underlying23
  have hz0 : 0 < w.heap.size := World.block_lt_of_cell? w _ (ht.fm 0 (by decide))
  obtain ⟨HF, HH, HA, HB, HC, HE⟩ := H
  simp only [cond_true, cond_false] at HE
  have HF := Aside0.mk HF; have HH := Aside0.mk HH; have HA := Aside0.mk HA; have HB := Aside0.mk HB; have HC := Aside0.mk HC; have HE := Aside0.mk HE
  have ht := Aside0.mk ht
  go_enter Tryd.func13, Tryd.ntmps13
  go_wp2_with (first | (go_at_call 15; (with_reducible refine (HF.out _ (by repeat (first | exact ht.out | apply Tab.drew | apply Tab.alloc))).mono ?_); rintro e w1 ⟨rfl, hb⟩; have HT := Aside0.mk (Tab.below (by repeat (first | exact ht.out | apply Tab.drew | apply Tab.alloc)) hb); obtain ⟨hc, hf⟩ := bcell hb; have hz : w.heap.size + 2 < w1.heap.size := (by have := hb.size; simp at this; omega); have hz3 : w.heap.size < w1.heap.size := (by omega); have hz4 : w.heap.size + 1 < w1.heap.size := (by omega); have hz5 : w.heap.size + 1 + 1 < w1.heap.size := (by omega); have HB1 := Aside0.mk hb; clear hb) | (go_at_call 23; (with_reducible refine (HH.out _).mono ?_); rintro e w' ⟨rfl, ⟨n, rfl⟩⟩) | (go_at_call 27; first | ((with_reducible refine (HA.out _ _ ?_).mono ?_); go_simp; rintro e w' ⟨rfl, rfl⟩) | ((with_reducible refine (HB.out _ _ ?_).mono ?_); go_simp; rintro e w' ⟨rfl, rfl⟩) | ((with_reducible refine (HC.out _ _ ?_).mono ?_); go_simp; rintro e w' ⟨rfl, rfl⟩)) | (go_at_call 10; (with_reducible refine (HE.out _ (by repeat (first | exact HT.out | apply Tab.drew | (refine Tab.set ?_ _ _ _ (by omega))))).mono ?_); rintro e w2 ⟨rfl, hb⟩; obtain ⟨hc2, hf2⟩ := bcell hb; have hz2 : w.heap.size + 2 < w2.heap.size := (by have := hb.size; simp at this; omega); have hy3 : w.heap.size < w2.heap.size := (by omega); have hy4 : w.heap.size + 1 < w2.heap.size := (by omega); have hy5 : w.heap.size + 1 + 1 < w2.heap.size := (by omega); have HB2 := Aside0.mk hb; clear hb))
  refine bodyPost_ret (v := .tuple #[.agg #[.int .i64 0, .int .i64 0, .int .i64 0, .int .i64 0, .int .i64 0], .int .i64 20]) (by simp [results, Tryd.results13, go_sem, hc2, hf2, hz2, hz3, hz4, hz5, hy3, hy4, hy5, hc, hf, hz]) rfl ⟨rfl, ?_⟩
  repeat (first | (with_reducible exact Below.refl _ _) | (with_reducible refine below_set ?_ (by omega)) | (with_reducible refine Below.trans ?_ (HB2.out.mono (by simp; omega))) | (with_reducible refine Below.trans ?_ (HB1.out.mono (by simp; omega))) | (with_reducible apply pw_below_drewN) | (with_reducible apply below_alloc))

set_option maxHeartbeats 1600000 in
set_option maxRecDepth 100000 in
theorem dec_f5_yes (x a b c f v r : Int) (w : World) (ht : Tab w) (x0 : 0 ≤ x) (x1 : x < 4294967296) (H : DecH x (x / 67108864) a b c f v r true false false true) (hv : (v == x) = true) (hv2 : (v != x) = false) (hr : (r == 0) = true) (hr2 : (r != 0) = false) :
    Calls Tryd.prog 13 #[.int .u32 x] w fun e w' => e = .returned (.tuple #[.agg #[.int .i64 (x / 67108864), .int .i64 (a), .int .i64 (0), .int .i64 (0), .int .i64 (immOf x)], .int .i64 0]) ∧ Below w.heap.size w w' := by
  have hu23 := Tryd.underlying23
  have hz0 : 0 < w.heap.size := World.block_lt_of_cell? w _ (ht.fm 0 (by decide))
  obtain ⟨HF, HH, HA, HB, HC, HE⟩ := H
  simp only [cond_true, cond_false] at HE
  have HF := Aside0.mk HF; have HH := Aside0.mk HH; have HA := Aside0.mk HA; have HB := Aside0.mk HB; have HC := Aside0.mk HC; have HE := Aside0.mk HE
  have ht := Aside0.mk ht
  go_enter Tryd.func13, Tryd.ntmps13
  go_wp2_with (first | (go_at_call 15; (with_reducible refine (HF.out _ (by repeat (first | exact ht.out | apply Tab.drew | apply Tab.alloc))).mono ?_); rintro e w1 ⟨rfl, hb⟩; have HT := Aside0.mk (Tab.below (by repeat (first | exact ht.out | apply Tab.drew | apply Tab.alloc)) hb); obtain ⟨hc, hf⟩ := bcell hb; have hz : w.heap.size + 2 < w1.heap.size := (by have := hb.size; simp at this; omega); have hz3 : w.heap.size < w1.heap.size := (by omega); have hz4 : w.heap.size + 1 < w1.heap.size := (by omega); have hz5 : w.heap.size + 1 + 1 < w1.heap.size := (by omega); have HB1 := Aside0.mk hb; clear hb) | (go_at_call 23; (with_reducible refine (HH.out _).mono ?_); rintro e w' ⟨rfl, ⟨n, rfl⟩⟩) | (go_at_call 27; first | ((with_reducible refine (HA.out _ _ ?_).mono ?_); go_simp; rintro e w' ⟨rfl, rfl⟩) | ((with_reducible refine (HB.out _ _ ?_).mono ?_); go_simp; rintro e w' ⟨rfl, rfl⟩) | ((with_reducible refine (HC.out _ _ ?_).mono ?_); go_simp; rintro e w' ⟨rfl, rfl⟩)) | (go_at_call 10; (with_reducible refine (HE.out _ (by repeat (first | exact HT.out | apply Tab.drew | (refine Tab.set ?_ _ _ _ (by omega))))).mono ?_); rintro e w2 ⟨rfl, hb⟩; obtain ⟨hc2, hf2⟩ := bcell hb; have hz2 : w.heap.size + 2 < w2.heap.size := (by have := hb.size; simp at this; omega); have hy3 : w.heap.size < w2.heap.size := (by omega); have hy4 : w.heap.size + 1 < w2.heap.size := (by omega); have hy5 : w.heap.size + 1 + 1 < w2.heap.size := (by omega); have HB2 := Aside0.mk hb; clear hb))
  refine bodyPost_ret (v := .tuple #[.agg #[.int .i64 (x / 67108864), .int .i64 (a), .int .i64 (0), .int .i64 (0), .int .i64 (immOf x)], .int .i64 0]) (by simp [results, Tryd.results13, go_sem, hc2, hf2, hz2, hz3, hz4, hz5, hy3, hy4, hy5, hc, hf, hz]) rfl ⟨rfl, ?_⟩
  repeat (first | (with_reducible exact Below.refl _ _) | (with_reducible refine below_set ?_ (by omega)) | (with_reducible refine Below.trans ?_ (HB2.out.mono (by simp; omega))) | (with_reducible refine Below.trans ?_ (HB1.out.mono (by simp; omega))) | (with_reducible apply pw_below_drewN) | (with_reducible apply below_alloc))

set_option maxHeartbeats 1600000 in
set_option maxRecDepth 100000 in
theorem dec_f5_nor (x a b c f v r : Int) (w : World) (ht : Tab w) (x0 : 0 ≤ x) (x1 : x < 4294967296) (H : DecH x (x / 67108864) a b c f v r true false false true) (hr : (r == 0) = false) (hr2 : (r != 0) = true) :
    Calls Tryd.prog 13 #[.int .u32 x] w fun e w' => e = .returned (.tuple #[.agg #[.int .i64 0, .int .i64 0, .int .i64 0, .int .i64 0, .int .i64 0], .int .i64 20]) ∧ Below w.heap.size w w' := by
  have hu23 := Tryd.underlying23
  have hz0 : 0 < w.heap.size := World.block_lt_of_cell? w _ (ht.fm 0 (by decide))
  obtain ⟨HF, HH, HA, HB, HC, HE⟩ := H
  simp only [cond_true, cond_false] at HE
  have HF := Aside0.mk HF; have HH := Aside0.mk HH; have HA := Aside0.mk HA; have HB := Aside0.mk HB; have HC := Aside0.mk HC; have HE := Aside0.mk HE
  have ht := Aside0.mk ht
  go_enter Tryd.func13, Tryd.ntmps13
  go_wp2_with (first | (go_at_call 15; (with_reducible refine (HF.out _ (by repeat (first | exact ht.out | apply Tab.drew | apply Tab.alloc))).mono ?_); rintro e w1 ⟨rfl, hb⟩; have HT := Aside0.mk (Tab.below (by repeat (first | exact ht.out | apply Tab.drew | apply Tab.alloc)) hb); obtain ⟨hc, hf⟩ := bcell hb; have hz : w.heap.size + 2 < w1.heap.size := (by have := hb.size; simp at this; omega); have hz3 : w.heap.size < w1.heap.size := (by omega); have hz4 : w.heap.size + 1 < w1.heap.size := (by omega); have hz5 : w.heap.size + 1 + 1 < w1.heap.size := (by omega); have HB1 := Aside0.mk hb; clear hb) | (go_at_call 23; (with_reducible refine (HH.out _).mono ?_); rintro e w' ⟨rfl, ⟨n, rfl⟩⟩) | (go_at_call 27; first | ((with_reducible refine (HA.out _ _ ?_).mono ?_); go_simp; rintro e w' ⟨rfl, rfl⟩) | ((with_reducible refine (HB.out _ _ ?_).mono ?_); go_simp; rintro e w' ⟨rfl, rfl⟩) | ((with_reducible refine (HC.out _ _ ?_).mono ?_); go_simp; rintro e w' ⟨rfl, rfl⟩)) | (go_at_call 10; (with_reducible refine (HE.out _ (by repeat (first | exact HT.out | apply Tab.drew | (refine Tab.set ?_ _ _ _ (by omega))))).mono ?_); rintro e w2 ⟨rfl, hb⟩; obtain ⟨hc2, hf2⟩ := bcell hb; have hz2 : w.heap.size + 2 < w2.heap.size := (by have := hb.size; simp at this; omega); have hy3 : w.heap.size < w2.heap.size := (by omega); have hy4 : w.heap.size + 1 < w2.heap.size := (by omega); have hy5 : w.heap.size + 1 + 1 < w2.heap.size := (by omega); have HB2 := Aside0.mk hb; clear hb))
  refine bodyPost_ret (v := .tuple #[.agg #[.int .i64 0, .int .i64 0, .int .i64 0, .int .i64 0, .int .i64 0], .int .i64 20]) (by simp [results, Tryd.results13, go_sem, hc2, hf2, hz2, hz3, hz4, hz5, hy3, hy4, hy5, hc, hf, hz]) rfl ⟨rfl, ?_⟩
  repeat (first | (with_reducible exact Below.refl _ _) | (with_reducible refine below_set ?_ (by omega)) | (with_reducible refine Below.trans ?_ (HB2.out.mono (by simp; omega))) | (with_reducible refine Below.trans ?_ (HB1.out.mono (by simp; omega))) | (with_reducible apply pw_below_drewN) | (with_reducible apply below_alloc))

set_option maxHeartbeats 1600000 in
set_option maxRecDepth 100000 in
theorem dec_f5_nov (x a b c f v r : Int) (w : World) (ht : Tab w) (x0 : 0 ≤ x) (x1 : x < 4294967296) (H : DecH x (x / 67108864) a b c f v r true false false true) (hv : (v == x) = false) (hv2 : (v != x) = true) (hr : (r == 0) = true) (hr2 : (r != 0) = false) :
    Calls Tryd.prog 13 #[.int .u32 x] w fun e w' => e = .returned (.tuple #[.agg #[.int .i64 0, .int .i64 0, .int .i64 0, .int .i64 0, .int .i64 0], .int .i64 20]) ∧ Below w.heap.size w w' := by
  have hu23 := Tryd.underlying23
  have hz0 : 0 < w.heap.size := World.block_lt_of_cell? w _ (ht.fm 0 (by decide))
  obtain ⟨HF, HH, HA, HB, HC, HE⟩ := H
  simp only [cond_true, cond_false] at HE
  have HF := Aside0.mk HF; have HH := Aside0.mk HH; have HA := Aside0.mk HA; have HB := Aside0.mk HB; have HC := Aside0.mk HC; have HE := Aside0.mk HE
  have ht := Aside0.mk ht
  go_enter Tryd.func13, Tryd.ntmps13
  go_wp2_with (first | (go_at_call 15; (with_reducible refine (HF.out _ (by repeat (first | exact ht.out | apply Tab.drew | apply Tab.alloc))).mono ?_); rintro e w1 ⟨rfl, hb⟩; have HT := Aside0.mk (Tab.below (by repeat (first | exact ht.out | apply Tab.drew | apply Tab.alloc)) hb); obtain ⟨hc, hf⟩ := bcell hb; have hz : w.heap.size + 2 < w1.heap.size := (by have := hb.size; simp at this; omega); have hz3 : w.heap.size < w1.heap.size := (by omega); have hz4 : w.heap.size + 1 < w1.heap.size := (by omega); have hz5 : w.heap.size + 1 + 1 < w1.heap.size := (by omega); have HB1 := Aside0.mk hb; clear hb) | (go_at_call 23; (with_reducible refine (HH.out _).mono ?_); rintro e w' ⟨rfl, ⟨n, rfl⟩⟩) | (go_at_call 27; first | ((with_reducible refine (HA.out _ _ ?_).mono ?_); go_simp; rintro e w' ⟨rfl, rfl⟩) | ((with_reducible refine (HB.out _ _ ?_).mono ?_); go_simp; rintro e w' ⟨rfl, rfl⟩) | ((with_reducible refine (HC.out _ _ ?_).mono ?_); go_simp; rintro e w' ⟨rfl, rfl⟩)) | (go_at_call 10; (with_reducible refine (HE.out _ (by repeat (first | exact HT.out | apply Tab.drew | (refine Tab.set ?_ _ _ _ (by omega))))).mono ?_); rintro e w2 ⟨rfl, hb⟩; obtain ⟨hc2, hf2⟩ := bcell hb; have hz2 : w.heap.size + 2 < w2.heap.size := (by have := hb.size; simp at this; omega); have hy3 : w.heap.size < w2.heap.size := (by omega); have hy4 : w.heap.size + 1 < w2.heap.size := (by omega); have hy5 : w.heap.size + 1 + 1 < w2.heap.size := (by omega); have HB2 := Aside0.mk hb; clear hb))
  refine bodyPost_ret (v := .tuple #[.agg #[.int .i64 0, .int .i64 0, .int .i64 0, .int .i64 0, .int .i64 0], .int .i64 20]) (by simp [results, Tryd.results13, go_sem, hc2, hf2, hz2, hz3, hz4, hz5, hy3, hy4, hy5, hc, hf, hz]) rfl ⟨rfl, ?_⟩
  repeat (first | (with_reducible exact Below.refl _ _) | (with_reducible refine below_set ?_ (by omega)) | (with_reducible refine Below.trans ?_ (HB2.out.mono (by simp; omega))) | (with_reducible refine Below.trans ?_ (HB1.out.mono (by simp; omega))) | (with_reducible apply pw_below_drewN) | (with_reducible apply below_alloc))

set_option maxHeartbeats 1600000 in
set_option maxRecDepth 100000 in
theorem dec_f6_yes (x a b c f v r : Int) (w : World) (ht : Tab w) (x0 : 0 ≤ x) (x1 : x < 4294967296) (H : DecH x (x / 67108864) a b c f v r true true false true) (hv : (v == x) = true) (hv2 : (v != x) = false) (hr : (r == 0) = true) (hr2 : (r != 0) = false) :
    Calls Tryd.prog 13 #[.int .u32 x] w fun e w' => e = .returned (.tuple #[.agg #[.int .i64 (x / 67108864), .int .i64 (a), .int .i64 (b), .int .i64 (0), .int .i64 (immOf x)], .int .i64 0]) ∧ Below w.heap.size w w' := by
  have hu23 := Tryd.underlying23
  have hz0 : 0 < w.heap.size := World.block_lt_of_cell? w _ (ht.fm 0 (by decide))
  obtain ⟨HF, HH, HA, HB, HC, HE⟩ := H
  simp only [cond_true, cond_false] at HE
  have HF := Aside0.mk HF; have HH := Aside0.mk HH; have HA := Aside0.mk HA; have HB := Aside0.mk HB; have HC := Aside0.mk HC; have HE := Aside0.mk HE
  have ht := Aside0.mk ht
  go_enter Tryd.func13, Tryd.ntmps13
  go_wp2_with (first | (go_at_call 15; (with_reducible refine (HF.out _ (by repeat (first | exact ht.out | apply Tab.drew | apply Tab.alloc))).mono ?_); rintro e w1 ⟨rfl, hb⟩; have HT := Aside0.mk (Tab.below (by repeat (first | exact ht.out | apply Tab.drew | apply Tab.alloc)) hb); obtain ⟨hc, hf⟩ := bcell hb; have hz : w.heap.size + 2 < w1.heap.size := (by have := hb.size; simp at this; omega); have hz3 : w.heap.size < w1.heap.size := (by omega); have hz4 : w.heap.size + 1 < w1.heap.size := (by omega); have hz5 : w.heap.size + 1 + 1 < w1.heap.size := (by omega); have HB1 := Aside0.mk hb; clear hb) | (go_at_call 23; (with_reducible refine (HH.out _).mono ?_); rintro e w' ⟨rfl, ⟨n, rfl⟩⟩) | (go_at_call 27; first | ((with_reducible refine (HA.out _ _ ?_).mono ?_); go_simp; rintro e w' ⟨rfl, rfl⟩) | ((with_reducible refine (HB.out _ _ ?_).mono ?_); go_simp; rintro e w' ⟨rfl, rfl⟩) | ((with_reducible refine (HC.out _ _ ?_).mono ?_); go_simp; rintro e w' ⟨rfl, rfl⟩)) | (go_at_call 10; (with_reducible refine (HE.out _ (by repeat (first | exact HT.out | apply Tab.drew | (refine Tab.set ?_ _ _ _ (by omega))))).mono ?_); rintro e w2 ⟨rfl, hb⟩; obtain ⟨hc2, hf2⟩ := bcell hb; have hz2 : w.heap.size + 2 < w2.heap.size := (by have := hb.size; simp at this; omega); have hy3 : w.heap.size < w2.heap.size := (by omega); have hy4 : w.heap.size + 1 < w2.heap.size := (by omega); have hy5 : w.heap.size + 1 + 1 < w2.heap.size := (by omega); have HB2 := Aside0.mk hb; clear hb))
  refine bodyPost_ret (v := .tuple #[.agg #[.int .i64 (x / 67108864), .int .i64 (a), .int .i64 (b), .int .i64 (0), .int .i64 (immOf x)], .int .i64 0]) (by simp [results, Tryd.results13, go_sem, hc2, hf2, hz2, hz3, hz4, hz5, hy3, hy4, hy5, hc, hf, hz]) rfl ⟨rfl, ?_⟩
  repeat (first | (with_reducible exact Below.refl _ _) | (with_reducible refine below_set ?_ (by omega)) | (with_reducible refine Below.trans ?_ (HB2.out.mono (by simp; omega))) | (with_reducible refine Below.trans ?_ (HB1.out.mono (by simp; omega))) | (with_reducible apply pw_below_drewN) | (with_reducible apply below_alloc))

set_option maxHeartbeats 1600000 in
set_option maxRecDepth 100000 in
theorem dec_f6_nor (x a b c f v r : Int) (w : World) (ht : Tab w) (x0 : 0 ≤ x) (x1 : x < 4294967296) (H : DecH x (x / 67108864) a b c f v r true true false true) (hr : (r == 0) = false) (hr2 : (r != 0) = true) :
    Calls Tryd.prog 13 #[.int .u32 x] w fun e w' => e = .returned (.tuple #[.agg #[.int .i64 0, .int .i64 0, .int .i64 0, .int .i64 0, .int .i64 0], .int .i64 20]) ∧ Below w.heap.size w w' := by
  have hu23 := Tryd.underlying23
  have hz0 : 0 < w.heap.size := World.block_lt_of_cell? w _ (ht.fm 0 (by decide))
  obtain ⟨HF, HH, HA, HB, HC, HE⟩ := H
  simp only [cond_true, cond_false] at HE
  have HF := Aside0.mk HF; have HH := Aside0.mk HH; have HA := Aside0.mk HA; have HB := Aside0.mk HB; have HC := Aside0.mk HC; have HE := Aside0.mk HE
  have ht := Aside0.mk ht
  go_enter Tryd.func13, Tryd.ntmps13
  go_wp2_with (first | (go_at_call 15; (with_reducible refine (HF.out _ (by repeat (first | exact ht.out | apply Tab.drew | apply Tab.alloc))).mono ?_); rintro e w1 ⟨rfl, hb⟩; have HT := Aside0.mk (Tab.below (by repeat (first | exact ht.out | apply Tab.drew | apply Tab.alloc)) hb); obtain ⟨hc, hf⟩ := bcell hb; have hz : w.heap.size + 2 < w1.heap.size := (by have := hb.size; simp at this; omega); have hz3 : w.heap.size < w1.heap.size := (by omega); have hz4 : w.heap.size + 1 < w1.heap.size := (by omega); have hz5 : w.heap.size + 1 + 1 < w1.heap.size := (by omega); have HB1 := Aside0.mk hb; clear hb) | (go_at_call 23; (with_reducible refine (HH.out _).mono ?_); rintro e w' ⟨rfl, ⟨n, rfl⟩⟩) | (go_at_call 27; first | ((with_reducible refine (HA.out _ _ ?_).mono ?_); go_simp; rintro e w' ⟨rfl, rfl⟩) | ((with_reducible refine (HB.out _ _ ?_).mono ?_); go_simp; rintro e w' ⟨rfl, rfl⟩) | ((with_reducible refine (HC.out _ _ ?_).mono ?_); go_simp; rintro e w' ⟨rfl, rfl⟩)) | (go_at_call 10; (with_reducible refine (HE.out _ (by repeat (first | exact HT.out | apply Tab.drew | (refine Tab.set ?_ _ _ _ (by omega))))).mono ?_); rintro e w2 ⟨rfl, hb⟩; obtain ⟨hc2, hf2⟩ := bcell hb; have hz2 : w.heap.size + 2 < w2.heap.size := (by have := hb.size; simp at this; omega); have hy3 : w.heap.size < w2.heap.size := (by omega); have hy4 : w.heap.size + 1 < w2.heap.size := (by omega); have hy5 : w.heap.size + 1 + 1 < w2.heap.size := (by omega); have HB2 := Aside0.mk hb; clear hb))
  refine bodyPost_ret (v := .tuple #[.agg #[.int .i64 0, .int .i64 0, .int .i64 0, .int .i64 0, .int .i64 0], .int .i64 20]) (by simp [results, Tryd.results13, go_sem, hc2, hf2, hz2, hz3, hz4, hz5, hy3, hy4, hy5, hc, hf, hz]) rfl ⟨rfl, ?_⟩
  repeat (first | (with_reducible exact Below.refl _ _) | (with_reducible refine below_set ?_ (by omega)) | (with_reducible refine Below.trans ?_ (HB2.out.mono (by simp; omega))) | (with_reducible refine Below.trans ?_ (HB1.out.mono (by simp; omega))) | (with_reducible apply pw_below_drewN) | (with_reducible apply below_alloc))

set_option maxHeartbeats 1600000 in
set_option maxRecDepth 100000 in
theorem dec_f6_nov (x a b c f v r : Int) (w : World) (ht : Tab w) (x0 : 0 ≤ x) (x1 : x < 4294967296) (H : DecH x (x / 67108864) a b c f v r true true false true) (hv : (v == x) = false) (hv2 : (v != x) = true) (hr : (r == 0) = true) (hr2 : (r != 0) = false) :
    Calls Tryd.prog 13 #[.int .u32 x] w fun e w' => e = .returned (.tuple #[.agg #[.int .i64 0, .int .i64 0, .int .i64 0, .int .i64 0, .int .i64 0], .int .i64 20]) ∧ Below w.heap.size w w' := by
  have hu23 := Tryd.underlying23
  have hz0 : 0 < w.heap.size := World.block_lt_of_cell? w _ (ht.fm 0 (by decide))
  obtain ⟨HF, HH, HA, HB, HC, HE⟩ := H
  simp only [cond_true, cond_false] at HE
  have HF := Aside0.mk HF; have HH := Aside0.mk HH; have HA := Aside0.mk HA; have HB := Aside0.mk HB; have HC := Aside0.mk HC; have HE := Aside0.mk HE
  have ht := Aside0.mk ht
  go_enter Tryd.func13, Tryd.ntmps13
  go_wp2_with (first | (go_at_call 15; (with_reducible refine (HF.out _ (by repeat (first | exact ht.out | apply Tab.drew | apply Tab.alloc))).mono ?_); rintro e w1 ⟨rfl, hb⟩; have HT := Aside0.mk (Tab.below (by repeat (first | exact ht.out | apply Tab.drew | apply Tab.alloc)) hb); obtain ⟨hc, hf⟩ := bcell hb; have hz : w.heap.size + 2 < w1.heap.size := (by have := hb.size; simp at this; omega); have hz3 : w.heap.size < w1.heap.size := (by omega); have hz4 : w.heap.size + 1 < w1.heap.size := (by omega); have hz5 : w.heap.size + 1 + 1 < w1.heap.size := (by omega); have HB1 := Aside0.mk hb; clear hb) | (go_at_call 23; (with_reducible refine (HH.out _).mono ?_); rintro e w' ⟨rfl, ⟨n, rfl⟩⟩) | (go_at_call 27; first | ((with_reducible refine (HA.out _ _ ?_).mono ?_); go_simp; rintro e w' ⟨rfl, rfl⟩) | ((with_reducible refine (HB.out _ _ ?_).mono ?_); go_simp; rintro e w' ⟨rfl, rfl⟩) | ((with_reducible refine (HC.out _ _ ?_).mono ?_); go_simp; rintro e w' ⟨rfl, rfl⟩)) | (go_at_call 10; (with_reducible refine (HE.out _ (by repeat (first | exact HT.out | apply Tab.drew | (refine Tab.set ?_ _ _ _ (by omega))))).mono ?_); rintro e w2 ⟨rfl, hb⟩; obtain ⟨hc2, hf2⟩ := bcell hb; have hz2 : w.heap.size + 2 < w2.heap.size := (by have := hb.size; simp at this; omega); have hy3 : w.heap.size < w2.heap.size := (by omega); have hy4 : w.heap.size + 1 < w2.heap.size := (by omega); have hy5 : w.heap.size + 1 + 1 < w2.heap.size := (by omega); have HB2 := Aside0.mk hb; clear hb))
  refine bodyPost_ret (v := .tuple #[.agg #[.int .i64 0, .int .i64 0, .int .i64 0, .int .i64 0, .int .i64 0], .int .i64 20]) (by simp [results, Tryd.results13, go_sem, hc2, hf2, hz2, hz3, hz4, hz5, hy3, hy4, hy5, hc, hf, hz]) rfl ⟨rfl, ?_⟩
  repeat (first | (with_reducible exact Below.refl _ _) | (with_reducible refine below_set ?_ (by omega)) | (with_reducible refine Below.trans ?_ (HB2.out.mono (by simp; omega))) | (with_reducible refine Below.trans ?_ (HB1.out.mono (by simp; omega))) | (with_reducible apply pw_below_drewN) | (with_reducible apply below_alloc))

set_option maxHeartbeats 1600000 in
set_option maxRecDepth 100000 in
theorem dec_f7_yes (x a b c f v r : Int) (w : World) (ht : Tab w) (x0 : 0 ≤ x) (x1 : x < 4294967296) (H : DecH x (x / 67108864) a b c f v r false false false true) (hv : (v == x) = true) (hv2 : (v != x) = false) (hr : (r == 0) = true) (hr2 : (r != 0) = false) :
    Calls Tryd.prog 13 #[.int .u32 x] w fun e w' => e = .returned (.tuple #[.agg #[.int .i64 (x / 67108864), .int .i64 (0), .int .i64 (0), .int .i64 (0), .int .i64 (immOf x)], .int .i64 0]) ∧ Below w.heap.size w w' := by
  have hu23 := Tryd.underlying23
  have hz0 : 0 < w.heap.size := World.block_lt_of_cell? w _ (ht.fm 0 (by decide))
  obtain ⟨HF, HH, HA, HB, HC, HE⟩ := H
  simp only [cond_true, cond_false] at HE
  have HF := Aside0.mk HF; have HH := Aside0.mk HH; have HA := Aside0.mk HA; have HB := Aside0.mk HB; have HC := Aside0.mk HC; have HE := Aside0.mk HE
  have ht := Aside0.mk ht
  go_enter Tryd.func13, Tryd.ntmps13
  go_wp2_with (first | (go_at_call 15; (with_reducible refine (HF.out _ (by repeat (first | exact ht.out | apply Tab.drew | apply Tab.alloc))).mono ?_); rintro e w1 ⟨rfl, hb⟩; have HT := Aside0.mk (Tab.below (by repeat (first | exact ht.out | apply Tab.drew | apply Tab.alloc)) hb); obtain ⟨hc, hf⟩ := bcell hb; have hz : w.heap.size + 2 < w1.heap.size := (by have := hb.size; simp at this; omega); have hz3 : w.heap.size < w1.heap.size := (by omega); have hz4 : w.heap.size + 1 < w1.heap.size := (by omega); have hz5 : w.heap.size + 1 + 1 < w1.heap.size := (by omega); have HB1 := Aside0.mk hb; clear hb) | (go_at_call 23; (with_reducible refine (HH.out _).mono ?_); rintro e w' ⟨rfl, ⟨n, rfl⟩⟩) | (go_at_call 27; first | ((with_reducible refine (HA.out _ _ ?_).mono ?_); go_simp; rintro e w' ⟨rfl, rfl⟩) | ((with_reducible refine (HB.out _ _ ?_).mono ?_); go_simp; rintro e w' ⟨rfl, rfl⟩) | ((with_reducible refine (HC.out _ _ ?_).mono ?_); go_simp; rintro e w' ⟨rfl, rfl⟩)) | (go_at_call 10; (with_reducible refine (HE.out _ (by repeat (first | exact HT.out | apply Tab.drew | (refine Tab.set ?_ _ _ _ (by omega))))).mono ?_); rintro e w2 ⟨rfl, hb⟩; obtain ⟨hc2, hf2⟩ := bcell hb; have hz2 : w.heap.size + 2 < w2.heap.size := (by have := hb.size; simp at this; omega); have hy3 : w.heap.size < w2.heap.size := (by omega); have hy4 : w.heap.size + 1 < w2.heap.size := (by omega); have hy5 : w.heap.size + 1 + 1 < w2.heap.size := (by omega); have HB2 := Aside0.mk hb; clear hb))
  refine bodyPost_ret (v := .tuple #[.agg #[.int .i64 (x / 67108864), .int .i64 (0), .int .i64 (0), .int .i64 (0), .int .i64 (immOf x)], .int .i64 0]) (by simp [results, Tryd.results13, go_sem, hc2, hf2, hz2, hz3, hz4, hz5, hy3, hy4, hy5, hc, hf, hz]) rfl ⟨rfl, ?_⟩
  repeat (first | (with_reducible exact Below.refl _ _) | (with_reducible refine below_set ?_ (by omega)) | (with_reducible refine Below.trans ?_ (HB2.out.mono (by simp; omega))) | (with_reducible refine Below.trans ?_ (HB1.out.mono (by simp; omega))) | (with_reducible apply pw_below_drewN) | (with_reducible apply below_alloc))

set_option maxHeartbeats 1600000 in
set_option maxRecDepth 100000 in
theorem dec_f7_nor (x a b c f v r : Int) (w : World) (ht : Tab w) (x0 : 0 ≤ x) (x1 : x < 4294967296) (H : DecH x (x / 67108864) a b c f v r false false false true) (hr : (r == 0) = false) (hr2 : (r != 0) = true) :
    Calls Tryd.prog 13 #[.int .u32 x] w fun e w' => e = .returned (.tuple #[.agg #[.int .i64 0, .int .i64 0, .int .i64 0, .int .i64 0, .int .i64 0], .int .i64 20]) ∧ Below w.heap.size w w' := by
  have hu23 := Tryd.underlying23
  have hz0 : 0 < w.heap.size := World.block_lt_of_cell? w _ (ht.fm 0 (by decide))
  obtain ⟨HF, HH, HA, HB, HC, HE⟩ := H
  simp only [cond_true, cond_false] at HE
  have HF := Aside0.mk HF; have HH := Aside0.mk HH; have HA := Aside0.mk HA; have HB := Aside0.mk HB; have HC := Aside0.mk HC; have HE := Aside0.mk HE
  have ht := Aside0.mk ht
  go_enter Tryd.func13, Tryd.ntmps13
  go_wp2_with (first | (go_at_call 15; (with_reducible refine (HF.out _ (by repeat (first | exact ht.out | apply Tab.drew | apply Tab.alloc))).mono ?_); rintro e w1 ⟨rfl, hb⟩; have HT := Aside0.mk (Tab.below (by repeat (first | exact ht.out | apply Tab.drew | apply Tab.alloc)) hb); obtain ⟨hc, hf⟩ := bcell hb; have hz : w.heap.size + 2 < w1.heap.size := (by have := hb.size; simp at this; omega); have hz3 : w.heap.size < w1.heap.size := (by omega); have hz4 : w.heap.size + 1 < w1.heap.size := (by omega); have hz5 : w.heap.size + 1 + 1 < w1.heap.size := (by omega); have HB1 := Aside0.mk hb; clear hb) | (go_at_call 23; (with_reducible refine (HH.out _).mono ?_); rintro e w' ⟨rfl, ⟨n, rfl⟩⟩) | (go_at_call 27; first | ((with_reducible refine (HA.out _ _ ?_).mono ?_); go_simp; rintro e w' ⟨rfl, rfl⟩) | ((with_reducible refine (HB.out _ _ ?_).mono ?_); go_simp; rintro e w' ⟨rfl, rfl⟩) | ((with_reducible refine (HC.out _ _ ?_).mono ?_); go_simp; rintro e w' ⟨rfl, rfl⟩)) | (go_at_call 10; (with_reducible refine (HE.out _ (by repeat (first | exact HT.out | apply Tab.drew | (refine Tab.set ?_ _ _ _ (by omega))))).mono ?_); rintro e w2 ⟨rfl, hb⟩; obtain ⟨hc2, hf2⟩ := bcell hb; have hz2 : w.heap.size + 2 < w2.heap.size := (by have := hb.size; simp at this; omega); have hy3 : w.heap.size < w2.heap.size := (by omega); have hy4 : w.heap.size + 1 < w2.heap.size := (by omega); have hy5 : w.heap.size + 1 + 1 < w2.heap.size := (by omega); have HB2 := Aside0.mk hb; clear hb))
  refine bodyPost_ret (v := .tuple #[.agg #[.int .i64 0, .int .i64 0, .int .i64 0, .int .i64 0, .int .i64 0], .int .i64 20]) (by simp [results, Tryd.results13, go_sem, hc2, hf2, hz2, hz3, hz4, hz5, hy3, hy4, hy5, hc, hf, hz]) rfl ⟨rfl, ?_⟩
  repeat (first | (with_reducible exact Below.refl _ _) | (with_reducible refine below_set ?_ (by omega)) | (with_reducible refine Below.trans ?_ (HB2.out.mono (by simp; omega))) | (with_reducible refine Below.trans ?_ (HB1.out.mono (by simp; omega))) | (with_reducible apply pw_below_drewN) | (with_reducible apply below_alloc))

set_option maxHeartbeats 1600000 in
set_option maxRecDepth 100000 in
theorem dec_f7_nov (x a b c f v r : Int) (w : World) (ht : Tab w) (x0 : 0 ≤ x) (x1 : x < 4294967296) (H : DecH x (x / 67108864) a b c f v r false false false true) (hv : (v == x) = false) (hv2 : (v != x) = true) (hr : (r == 0) = true) (hr2 : (r != 0) = false) :
    Calls Tryd.prog 13 #[.int .u32 x] w fun e w' => e = .returned (.tuple #[.agg #[.int .i64 0, .int .i64 0, .int .i64 0, .int .i64 0, .int .i64 0], .int .i64 20]) ∧ Below w.heap.size w w' := by
  have hu23 := Tryd.underlying23
  have hz0 : 0 < w.heap.size := World.block_lt_of_cell? w _ (ht.fm 0 (by decide))
  obtain ⟨HF, HH, HA, HB, HC, HE⟩ := H
  simp only [cond_true, cond_false] at HE
  have HF := Aside0.mk HF; have HH := Aside0.mk HH; have HA := Aside0.mk HA; have HB := Aside0.mk HB; have HC := Aside0.mk HC; have HE := Aside0.mk HE
  have ht := Aside0.mk ht
  go_enter Tryd.func13, Tryd.ntmps13
  go_wp2_with (first | (go_at_call 15; (with_reducible refine (HF.out _ (by repeat (first | exact ht.out | apply Tab.drew | apply Tab.alloc))).mono ?_); rintro e w1 ⟨rfl, hb⟩; have HT := Aside0.mk (Tab.below (by repeat (first | exact ht.out | apply Tab.drew | apply Tab.alloc)) hb); obtain ⟨hc, hf⟩ := bcell hb; have hz : w.heap.size + 2 < w1.heap.size := (by have := hb.size; simp at this; omega); have hz3 : w.heap.size < w1.heap.size := (by omega); have hz4 : w.heap.size + 1 < w1.heap.size := (by omega); have hz5 : w.heap.size + 1 + 1 < w1.heap.size := (by omega); have HB1 := Aside0.mk hb; clear hb) | (go_at_call 23; (with_reducible refine (HH.out _).mono ?_); rintro e w' ⟨rfl, ⟨n, rfl⟩⟩) | (go_at_call 27; first | ((with_reducible refine (HA.out _ _ ?_).mono ?_); go_simp; rintro e w' ⟨rfl, rfl⟩) | ((with_reducible refine (HB.out _ _ ?_).mono ?_); go_simp; rintro e w' ⟨rfl, rfl⟩) | ((with_reducible refine (HC.out _ _ ?_).mono ?_); go_simp; rintro e w' ⟨rfl, rfl⟩)) | (go_at_call 10; (with_reducible refine (HE.out _ (by repeat (first | exact HT.out | apply Tab.drew | (refine Tab.set ?_ _ _ _ (by omega))))).mono ?_); rintro e w2 ⟨rfl, hb⟩; obtain ⟨hc2, hf2⟩ := bcell hb; have hz2 : w.heap.size + 2 < w2.heap.size := (by have := hb.size; simp at this; omega); have hy3 : w.heap.size < w2.heap.size := (by omega); have hy4 : w.heap.size + 1 < w2.heap.size := (by omega); have hy5 : w.heap.size + 1 + 1 < w2.heap.size := (by omega); have HB2 := Aside0.mk hb; clear hb))
  refine bodyPost_ret (v := .tuple #[.agg #[.int .i64 0, .int .i64 0, .int .i64 0, .int .i64 0, .int .i64 0], .int .i64 20]) (by simp [results, Tryd.results13, go_sem, hc2, hf2, hz2, hz3, hz4, hz5, hy3, hy4, hy5, hc, hf, hz]) rfl ⟨rfl, ?_⟩
  repeat (first | (with_reducible exact Below.refl _ _) | (with_reducible refine below_set ?_ (by omega)) | (with_reducible refine Below.trans ?_ (HB2.out.mono (by simp; omega))) | (with_reducible refine Below.trans ?_ (HB1.out.mono (by simp; omega))) | (with_reducible apply pw_below_drewN) | (with_reducible apply below_alloc))

end Go.Proofs.YtdoighcgfbnigaaDoor.Isa
