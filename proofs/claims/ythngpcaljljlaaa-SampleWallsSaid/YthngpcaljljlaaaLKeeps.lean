import Derived.Test.YthngpcaljljlaaaRd
import Derived.Test.YthngpcaljljlaaaKeepW
import Derived.Test.YthngpcaljljlaaaNames
namespace Go.Proofs.Ythngpcaljljlaaa.Fw
open Go Go.Proofs
set_option linter.unusedVariables false
set_option linter.unusedSimpArgs false
set_option maxRecDepth 10000

theorem rep_getD (n i : Nat) : (List.replicate n (0 : Int)).getD i 0 = 0 := by
  simp only [List.getD_eq_getElem?_getD, List.getElem?_replicate]
  split <;> rfl
theorem stage_getD {M : List Int} {wd : Int} (h1 : 1 ≤ M.length) (h2 : (M.length : Int) ≤ wd) (i : Nat) : (stageW M wd).getD i 0 = if 2 ≤ i ∧ i < 2 + M.length then M.getD (i - 2) 0 else if i = 1 then (M.length : Int) else if i = 0 then 1 else 0 := by
  unfold stageW
  rw [spl_getD (by simp; omega)]
  split
  · rfl
  · rw [set_getD (by simp; omega), set_getD (by simp; omega), rep_getD]
    simp only [eq_comm]
theorem port_getD {M : List Int} {wd : Int} (h1 : 1 ≤ M.length) (h2 : (M.length : Int) ≤ wd) (i : Nat) : (portW M wd).getD i 0 = if 3 ≤ i ∧ i < 3 + M.length then M.getD (i - 3) 0 else if i = 2 then (M.length : Int) else if i = 1 then 1 else if i = 0 then 1 else 0 := by
  unfold portW
  rw [spl_getD (by simp; omega)]
  split
  · rfl
  · rw [set_getD (by simp; omega), set_getD (by simp; omega), set_getD (by simp; omega), rep_getD]
    simp only [eq_comm]
theorem take_drop_eq {l M : List Int} {h : Nat} (hl : h + M.length ≤ l.length) (hg : ∀ i, i < M.length → l.getD (h + i) 0 = M.getD i 0) : (l.drop h).take M.length = M := by
  refine getD_ext (by rw [List.length_take, List.length_drop]; omega) fun j hj => ?_
  rw [getD_part, if_pos hj]
  exact hg j hj
theorem held_stage {M : List Int} {wd : Int} (h1 : 1 ≤ M.length) (h2 : (M.length : Int) ≤ wd) : heldV (stageW M wd) 2 = some M := by
  have hl := stageW_len h1 h2
  have hg := stage_getD h1 h2
  have g0 : (stageW M wd).getD 0 0 = 1 := by rw [hg]; simp
  have g1 : (stageW M wd).getD 1 0 = (M.length : Int) := by rw [hg]; simp
  have hm : msgN (stageW M wd) 2 = M.length := by unfold msgN; rw [show 2 - 1 = 1 from rfl, g1]; rfl
  rw [heldV_msg (fun h => by have := h 0 (by omega); omega) g0 (by omega) ⟨by omega, by rw [hm]; omega, fun i hi _ => by rw [hm] at hi; rw [hg, if_neg (by omega), if_neg (by omega), if_neg (by omega)]⟩, hm]
  rw [take_drop_eq (by omega) fun i hi => by rw [hg, if_pos ⟨by omega, by omega⟩]; congr 1; omega]
theorem held_port {M : List Int} {wd : Int} (h1 : 1 ≤ M.length) (h2 : (M.length : Int) ≤ wd) : heldV (portW M wd) 3 = some M := by
  have hl := portW_len h1 h2
  have hg := port_getD h1 h2
  have g0 : (portW M wd).getD 0 0 = 1 := by rw [hg]; simp
  have g1 : (portW M wd).getD 1 0 = 1 := by rw [hg]; simp
  have g2 : (portW M wd).getD 2 0 = (M.length : Int) := by rw [hg]; simp
  have hm : msgN (portW M wd) 3 = M.length := by unfold msgN; rw [show 3 - 1 = 2 from rfl, g2]; rfl
  rw [heldV_msg (fun h => by have := h 0 (by omega); omega) g0 (by omega) ⟨by omega, by rw [hm]; omega, fun i hi _ => by rw [hm] at hi; rw [hg, if_neg (by omega), if_neg (by omega), if_neg (by omega), if_neg (by omega)]⟩, hm]
  rw [take_drop_eq (by omega) fun i hi => by rw [hg, if_pos ⟨by omega, by omega⟩]; congr 1; omega]
theorem part_getD {W : List Int} {a k : Int} {j : Nat} (hj : j < k.toNat) : (part W a k).getD j 0 = W.getD (a.toNat + j) 0 := by unfold part; rw [getD_part, if_pos hj]
theorem part_spl {W Y : List Int} {o : Nat} {a k : Int} (ho : o + Y.length ≤ W.length) (h : a.toNat + k.toNat ≤ o ∨ o + Y.length ≤ a.toNat) : part (spl o Y W) a k = part W a k := by
  refine getD_ext (by unfold part; simp only [List.length_take, List.length_drop]; rw [spl_length ho]) fun j hj => ?_
  have hj2 : j < k.toNat := by unfold part at hj; simp only [List.length_take] at hj; omega
  rw [part_getD hj2, part_getD hj2, spl_getD ho, if_neg (by omega)]
theorem part_same {W Y : List Int} {a k : Int} (ho : a.toNat + Y.length ≤ W.length) (hk : k.toNat = Y.length) : part (spl a.toNat Y W) a k = Y := by
  refine getD_ext (by unfold part; simp only [List.length_take, List.length_drop]; rw [spl_length ho]; omega) fun j hj => ?_
  rw [part_getD (by omega), spl_getD ho, if_pos ⟨by omega, by omega⟩]
  congr 1; omega
theorem part_z {n : Nat} {a k : Int} : AllZ (part (List.replicate n 0) a k) := fun i hi => by
  have hj2 : i < k.toNat := by unfold part at hi; simp only [List.length_take] at hi; omega
  rw [part_getD hj2, rep_getD]
/- The law's memory. -/
def sk1 (M : List Int) : List Int := spl 0 (stageW M 16) (List.replicate 64 0)
def sk2 (M : List Int) : List Int := spl 0 (List.replicate 18 0) (layP (sk1 M) [20, 40] (portW M 16) 2)
theorem sk1_len {M : List Int} (h1 : 1 ≤ M.length) (h2 : (M.length : Int) ≤ 16) : (sk1 M).length = 64 := by
  unfold sk1
  rw [spl_length (by rw [stageW_len h1 h2]; simp)]; simp
theorem sk_put {M W2 : List Int} {e : Int} (h1 : 1 ≤ M.length) (h2 : (M.length : Int) ≤ 16) (h : PutG (List.replicate 64 0) 64 0 16 M W2 e) : W2 = sk1 M ∧ e = 0 := by
  unfold PutG WdOk inR at h
  rcases h with h | h | h | h | h
  · omega
  · omega
  · omega
  · rw [heldV_z part_z] at h; exact absurd h.2.2.2.1 (by simp)
  · exact ⟨h.2.2.2.2.2, h.2.2.2.2.1⟩
theorem sk_stage {M : List Int} (h1 : 1 ≤ M.length) (h2 : (M.length : Int) ≤ 16) : part (sk1 M) 0 (2 + 16) = stageW M 16 := by
  have hl := stageW_len h1 h2
  exact part_same (a := 0) (by rw [hl]; simp) (by rw [hl])
theorem sk_rest {M : List Int} (h1 : 1 ≤ M.length) (h2 : (M.length : Int) ≤ 16) {p : Int} (hp : 18 ≤ p) : part (sk1 M) p (3 + 16) = part (List.replicate 64 0) p (3 + 16) := by
  have hl := stageW_len h1 h2
  exact part_spl (by rw [hl]; simp) (.inr (by rw [hl]; omega))
theorem sk_ready {M : List Int} (h1 : 1 ≤ M.length) (h2 : (M.length : Int) ≤ 16) {e : Int} (h : ReadyG (sk1 M) 64 0 16 [20, 40] 2 e) : e = 0 := by
  have hp0 : pAt [20, 40] 0 = 20 := rfl
  have hp1 : pAt [20, 40] 1 = 40 := rfl
  have hap : ApartP 0 16 [20, 40] 2 := by
    intro i hi
    rcases (show i = 0 ∨ i = 1 by omega) with rfl | rfl
    · exact ⟨by rw [hp0]; omega, fun j hj => by omega⟩
    · exact ⟨by rw [hp1]; omega, fun j hj => by obtain rfl : j = 0 := by omega
                                                rw [hp0, hp1]; omega⟩
  rcases h with ⟨_, h⟩ | ⟨_, _, h⟩ | ⟨_, _, h⟩ | h
  · exact absurd (show CntOk 16 2 by unfold CntOk WdOk; omega) h
  · rcases h with h | ⟨i, hi, h⟩
    · exact absurd (show inR 64 0 (2 + 16) by unfold inR; omega) h
    · rcases (show i = 0 ∨ i = 1 by omega) with rfl | rfl
      · rw [hp0] at h; exact absurd (show inR 64 20 (3 + 16) by unfold inR; omega) h
      · rw [hp1] at h; exact absurd (show inR 64 40 (3 + 16) by unfold inR; omega) h
  · rcases h with h | ⟨i, hi, h⟩
    · exact absurd hap h
    · have hp : 18 ≤ pAt [20, 40] i := by
        rcases (show i = 0 ∨ i = 1 by omega) with rfl | rfl
        · rw [hp0]; decide
        · rw [hp1]; decide
      rw [sk_rest h1 h2 hp, heldV_z part_z] at h; cases h
  · exact h.1
theorem sk_deliver {M W2 : List Int} {e : Int} (h1 : 1 ≤ M.length) (h2 : (M.length : Int) ≤ 16) (h : DelG (sk1 M) 64 0 16 [20, 40] 2 W2 e) : W2 = sk2 M ∧ e = 0 := by
  have hs : heldV (part (sk1 M) 0 (2 + 16)) 2 = some M := by rw [sk_stage h1 h2, held_stage h1 h2]
  rcases h with ⟨he, _, h⟩ | ⟨he, _, h⟩
  · rcases h with h | ⟨_, _, h⟩
    · exact absurd (sk_ready h1 h2 h) he
    · rw [hs] at h; cases h
  · rcases h with ⟨h, _⟩ | ⟨T, h, _, h3⟩
    · rw [hs] at h; injection h with h; rw [h] at h1; simp at h1
    · rw [hs] at h; injection h with h; subst h; exact ⟨h3, he⟩
theorem sk_lay {M : List Int} (h1 : 1 ≤ M.length) (h2 : (M.length : Int) ≤ 16) : (layP (sk1 M) [20, 40] (portW M 16) 1).length = 64 ∧ (layP (sk1 M) [20, 40] (portW M 16) 2).length = 64 := by
  have hY := portW_len h1 h2
  have h0 : ∀ i, i < 2 → (pAt [20, 40] i).toNat + (portW M 16).length ≤ 64 := by
    intro i hi
    rw [hY]
    rcases (show i = 0 ∨ i = 1 by omega) with rfl | rfl <;> decide
  exact ⟨layP_len (sk1_len h1 h2) 1 fun i hi => h0 i (by omega), layP_len (sk1_len h1 h2) 2 h0⟩
theorem sk2_len {M : List Int} (h1 : 1 ≤ M.length) (h2 : (M.length : Int) ≤ 16) : (sk2 M).length = 64 := by
  unfold sk2
  rw [spl_length (by rw [(sk_lay h1 h2).2]; simp)]; exact (sk_lay h1 h2).2
theorem sk_port {M : List Int} (h1 : 1 ≤ M.length) (h2 : (M.length : Int) ≤ 16) : part (sk2 M) 20 (3 + 16) = portW M 16 := by
  have hY := portW_len h1 h2
  have hl := sk_lay h1 h2
  unfold sk2
  rw [part_spl (by rw [hl.2]; simp) (.inr (by simp))]
  show part (spl (40 : Int).toNat (portW M 16) (layP (sk1 M) [20, 40] (portW M 16) 1)) 20 (3 + 16) = _
  rw [part_spl (by rw [hl.1, hY]; decide) (.inl (by decide))]
  exact part_same (a := 20) (by rw [show (layP (sk1 M) [20, 40] (portW M 16) 0).length = 64 from sk1_len h1 h2, hY]; decide) (by rw [hY])
theorem sk_read {M T : List Int} {fr th : Bool} {e : Int} (h1 : 1 ≤ M.length) (h2 : (M.length : Int) ≤ 16) (h : RdpG (sk2 M) 64 20 16 T fr th e) : T = M ∧ th = true ∧ e = 0 := by
  have hs : heldV (part (sk2 M) 20 (((3 : Nat) : Int) + 16)) 3 = some M := by
    have := sk_port h1 h2
    show heldV (part (sk2 M) 20 (3 + 16)) 3 = some M
    rw [this, held_port h1 h2]
  have hi : inR 64 20 (((3 : Nat) : Int) + 16) := by unfold inR; omega
  have key : ∀ {T e}, ReadG (sk2 M) 64 20 16 3 T e → T = M ∧ e = 0 := by
    intro T e h
    rcases h with ⟨_, _, h⟩ | ⟨_, _, _, h⟩ | ⟨he, _, h⟩
    · exact absurd hi h
    · rw [hs] at h; cases h
    · rw [hs] at h; injection h with h; exact ⟨h.symm, he⟩
  rcases h with ⟨_, h, _⟩ | ⟨_, hT, _, _, h⟩ | ⟨_, he, _, ht, h, _⟩
  · exact absurd (show WdOk 16 by unfold WdOk; omega) h
  · have := (key h).1; rw [hT] at this; rw [← this] at h1; simp at h1
  · exact ⟨(key h).1, ht, he⟩
theorem sk2_u {M : List Int} (hU : W32s M) (h1 : 1 ≤ M.length) (h2 : (M.length : Int) ≤ 16) : W32s (sk2 M) := by
  have hY := portW_len h1 h2
  have hS := stageW_len h1 h2
  have hl := sk_lay h1 h2
  have a1 : W32s (stageW M 16) := fun i => by
    rw [stage_getD h1 h2]
    split
    · exact hU _
    · split
      · omega
      · split <;> decide
  have a2 : W32s (portW M 16) := fun i => by
    rw [port_getD h1 h2]
    split
    · exact hU _
    · split
      · omega
      · split
        · decide
        · split <;> decide
  have sp : ∀ {o : Nat} {Y W : List Int}, o + Y.length ≤ W.length → W32s Y → W32s W → W32s (spl o Y W) := fun ho h1 h2 i => by
    rw [spl_getD ho]
    split
    · exact h1 _
    · exact h2 _
  have b1 : W32s (sk1 M) := sp (by rw [hS]; simp) a1 (fun i => by rw [rep_getD]; decide)
  have b2 : W32s (layP (sk1 M) [20, 40] (portW M 16) 1) := sp (by rw [show (layP (sk1 M) [20, 40] (portW M 16) 0).length = 64 from sk1_len h1 h2, hY]; decide) a2 b1
  have b3 : W32s (layP (sk1 M) [20, 40] (portW M 16) 2) := sp (by rw [hl.1, hY]; decide) a2 b2
  exact sp (by rw [hl.2]; simp) (fun i => by rw [rep_getD]; decide) b3
theorem sk1_u {M : List Int} (hU : W32s M) (h1 : 1 ≤ M.length) (h2 : (M.length : Int) ≤ 16) : W32s (sk1 M) := by
  have hS := stageW_len h1 h2
  intro i
  unfold sk1
  rw [spl_getD (by rw [hS]; simp)]
  split
  · rw [stage_getD h1 h2]
    split
    · exact hU _
    · split
      · omega
      · split <;> decide
  · rw [rep_getD]; decide

theorem ir_take {w0 : World} {F : List Atom} {kd : IntKind} {b o k n : Nat} {l : List Int} (hl : l.length = n) (hr : RowAt w0 F b o (ints kd l)) (hk : k ≤ n) : IR w0 F kd (some ⟨b, o, none⟩) k (l.take k) := by
  refine ⟨by rw [List.length_take]; omega, .inr ⟨b, o, rfl, ?_⟩⟩
  have := hr.mid 0 k
  rwa [List.drop_zero, ints_take, Nat.add_zero] at this
theorem two_b : ∀ i, -9223372036854775808 ≤ [20, 40].getD i (0 : Int) ∧ [20, 40].getD i (0 : Int) ≤ 9223372036854775807 := by
  intro i
  rcases (show i = 0 ∨ i = 1 ∨ 2 ≤ i by omega) with rfl | rfl | h
  · decide
  · decide
  · have : [20, 40].getD i (0 : Int) = 0 := by simp [List.getD_eq_getElem?_getD, show ¬ i < 2 by omega]
    rw [this]; decide
theorem take_u {W : List Int} (h : W32s W) (k : Nat) : W32s (W.take k) := by
  intro i
  have := (h.part 0 k) i
  rwa [List.drop_zero] at this
set_option maxHeartbeats 4000000 in
theorem keeps_ok (w0 : World) (F : List Atom) (a : Option Addr) (n c0 : Nat) (l : List Int) (hI : IR w0 F .u32 a n l) (hU : W32s l) (hnc : n ≤ c0) (hn : n ≤ 9223372036854775807) (mark : Int) (m0 : 0 ≤ mark) (m1 : mark ≤ 4294967295) :
    CallK Try.prog 4 [.slice a n c0, .int .u32 mark] w0 (F) (Gives w0 fun v F2 => v = .bool true ∧ F2 = F) := by
  have hl := hI.1
  refine c_enter Try.func4 rfl rfl rfl ?_
  refine g_seq ?_
  refine g_region ?_
  refine l_assign rfl rfl ?_
  refine l_nil ?_
  refine g_seq ?_
  refine g_region ?_
  refine l_call rfl Try.call8 rfl (new_ok _ _ 4 (by omega) (by omega)) ?_; rintro _ _ ⟨b, g, c, rfl, hc, hF9⟩; rw [hF9]; clear hF9
  rw [show ((4 : Int) * 16).toNat = 64 from rfl] at *
  refine l_move rfl rfl ?_
  refine l_extract rfl rfl rfl ?_
  refine l_extract rfl rfl rfl ?_
  refine l_assign rfl rfl ?_
  refine l_assign rfl rfl ?_
  refine l_nil ?_
  refine g_seq ?_
  refine g_seq ?_
  refine g_region ?_
  refine l_move rfl rfl ?_
  refine l_neq rfl rfl rfl ?_
  refine l_move rfl rfl ?_
  refine l_split 28 rfl ?_ ?_
  · intro hbr
    have hbr := of_decide_eq_true hbr
    (exfalso; omega)
  intro hbr
  have hbr := of_decide_eq_false hbr
  refine l_guard_yes rfl rfl ?_
  refine l_move rfl rfl ?_
  refine l_guard_yes rfl rfl ?_
  refine l_len rfl Try.underlying29 rfl ?_
  refine l_guard_yes rfl rfl ?_
  refine l_eql rfl rfl rfl ?_
  refine l_pick_f rfl rfl rfl ?_
  refine l_nil ?_
  refine g_cond rfl ?_ ?_
  · intro hbr
    have hbr := of_decide_eq_true hbr
    refine g_seq ?_
    refine g_region ?_
    refine l_move rfl rfl ?_
    refine l_eql rfl rfl rfl ?_
    refine l_assign rfl rfl ?_
    refine l_nil ?_
    refine g_ret Try.func4 rfl (.tmp rfl .nil) ?_
    (first | exact Gives.mki ⟨rfl, rfl⟩ | exact Gives.mki ⟨(show Value.bool _ = _ from congrArg Value.bool (decide_eq_true (by omega))), rfl⟩)
  intro hbr
  have hbr := of_decide_eq_false hbr
  refine g_skip ?_
  refine g_seq ?_
  refine g_region ?_
  refine l_move rfl rfl ?_
  refine l_move rfl rfl ?_
  refine l_len rfl Try.underlying29 rfl ?_
  refine l_min rfl rfl rfl ?_
  obtain ⟨b9, o9, rfl, hr9⟩ := hI.some (i := 0) (by omega)
  refine l_slice_hi rfl Try.underlying29 Try.sizeOf28 rfl rfl (by omega) (by omega) ?_
  obtain ⟨k, hk⟩ : ∃ k : Nat, (min (n : Int) 16).toNat = k := ⟨_, rfl⟩
  rw [hk]
  obtain ⟨M, hM⟩ : ∃ M : List Int, l.take k = M := ⟨_, rfl⟩
  have hMl : M.length = k := by rw [← hM, List.length_take]; omega
  have hMu : W32s M := by rw [← hM]; exact take_u hU k
  refine l_call rfl Try.call11 rfl (copy_words _ _ (some ⟨b9, o9, none⟩) k c0 M (by rw [← hM]; exact (ir_take hl hr9.ex (by omega))) (by omega) hMu) ?_; rintro _ _ ⟨gw, rfl, rfl⟩
  refine l_assign rfl rfl ?_
  refine l_nil ?_
  refine g_seq ?_
  refine g_region ?_
  refine l_move rfl rfl ?_
  refine l_call rfl Try.call12 rfl (words_full _ _ (some ⟨gw, 0, none⟩) k k M (IR.own hMl (mem_getO 0 rfl) (.inr ⟨_, rfl⟩)) (by omega) hMu) ?_; rintro _ _ ⟨gh, X, rfl, hX, rfl⟩
  refine l_assign rfl rfl ?_
  refine l_nil ?_
  refine g_seq ?_
  refine g_seq ?_
  refine g_region ?_
  refine l_move rfl rfl ?_
  refine l_move rfl rfl ?_
  refine l_fronto g ?_
  refine l_frontb b ?_
  refine l_call rfl Try.call9 rfl (put_ok _ _ b g 64 c (List.replicate 64 0) rfl hc (by omega) (rep_u32 64) (by omega) 0 (by omega) (by omega) 16 (by omega) (by omega) (some ⟨gh, 0, none⟩) k (k + 70) M (ir_pre hMl (mem_getO 0 rfl) (hX.pre hMl)) (by omega)) ?_; rintro _ _ ⟨W1, e, rfl, hW1, rfl, hP⟩
  obtain ⟨rfl, rfl⟩ := sk_put (by omega) (by omega) hP
  refine l_neq rfl rfl rfl ?_
  refine l_move rfl rfl ?_
  refine l_split 47 rfl ?_ ?_
  · intro hbr
    have hbr := of_decide_eq_true hbr
    (exfalso; omega)
  intro hbr
  have hbr := of_decide_eq_false hbr
  refine l_guard_yes rfl rfl ?_
  refine l_move rfl rfl ?_
  refine l_guard_yes rfl rfl ?_
  refine l_move rfl rfl ?_
  refine l_guard_yes rfl rfl ?_
  refine l_fronto gh ?_
  refine l_call rfl Try.call13 rfl (words_kept _ _ gh X (some ⟨gw, 0, none⟩) k k M (IR.own hMl (mem_getO 2 rfl) (.inr ⟨_, rfl⟩)) (by omega) hMu hX) ?_; rintro _ _ ⟨rfl, rfl⟩
  refine l_guard_yes rfl rfl ?_
  refine l_not rfl rfl ?_
  refine l_pick_f rfl rfl rfl ?_
  refine l_nil ?_
  refine g_cond_f rfl ?_
  refine g_skip ?_
  refine g_seq ?_
  refine g_region ?_
  refine l_move rfl rfl ?_
  refine l_move rfl rfl ?_
  refine l_fronto gh ?_
  refine gl_heap (fun w hw => hw.as (own_shrink (k := k) (by omega)) (fun b hb => hb)) ?_
  rw [ints_take]
  refine l_call rfl Try.call14 rfl (spoil_words _ _ (some ⟨gh, 0, none⟩) k (k + 70) (X.take k) (.inr ⟨_, rfl⟩) (by rw [List.length_take, hX.1]; omega) (by omega) mark m0 m1) ?_; rintro _ _ rfl
  refine l_nil ?_
  refine g_seq ?_
  refine g_region ?_
  refine l_buildSlice rfl Try.underlying34 Try.sizeOf3 Try.zeroValue3 rfl rfl rfl rfl rfl rfl ?_; intro b56
  refine l_call rfl Try.call15 rfl (ints_full _ _ (some ⟨b56, 0, none⟩) 2 2 [20, 40] (IR.own rfl (mem_getO 0 rfl) (.inr ⟨_, rfl⟩)) (by omega) two_b) ?_; rintro _ _ ⟨gi, XI, rfl, hXI, rfl⟩
  refine l_assign rfl rfl ?_
  refine l_nil ?_
  refine g_seq ?_
  refine g_seq ?_
  refine g_region ?_
  refine l_move rfl rfl ?_
  refine l_move rfl rfl ?_
  refine l_fronto g ?_
  refine l_frontb b ?_
  refine l_call rfl Try.call16 rfl (deliver_ok _ _ b g 64 c (sk1 M) (sk1_len (by omega) (by omega)) hc (by omega) (sk1_u hMu (by omega) (by omega)) (by omega) 0 (by omega) (by omega) 16 (by omega) (by omega) (some ⟨gi, 0, none⟩) 2 (2 + 70) [20, 40] (ir_pre rfl (mem_getO 0 rfl) (hXI.pre rfl)) two_b (by omega) (by omega)) ?_; rintro _ _ ⟨W2, e, rfl, hW2, rfl, hD⟩
  obtain ⟨rfl, rfl⟩ := sk_deliver (by omega) (by omega) hD
  refine l_neq rfl rfl rfl ?_
  refine l_move rfl rfl ?_
  refine l_split 62 rfl ?_ ?_
  · intro hbr
    have hbr := of_decide_eq_true hbr
    (exfalso; omega)
  intro hbr
  have hbr := of_decide_eq_false hbr
  refine l_guard_yes rfl rfl ?_
  refine l_move rfl rfl ?_
  refine l_guard_yes rfl rfl ?_
  refine l_buildSlice rfl Try.underlying34 Try.sizeOf3 Try.zeroValue3 rfl rfl rfl rfl rfl rfl ?_; intro b64
  refine l_guard_yes rfl rfl ?_
  refine l_fronto gi ?_
  refine l_call rfl Try.call17 rfl (ints_kept _ _ gi XI (some ⟨b64, 0, none⟩) 2 2 [20, 40] (IR.own rfl (mem_getO 0 rfl) (.inr ⟨_, rfl⟩)) (by omega) two_b hXI) ?_; rintro _ _ ⟨rfl, rfl⟩
  refine l_guard_yes rfl rfl ?_
  refine l_not rfl rfl ?_
  refine l_pick_f rfl rfl rfl ?_
  refine l_nil ?_
  refine g_cond_f rfl ?_
  refine g_skip ?_
  refine g_seq ?_
  refine g_region ?_
  refine l_move rfl rfl ?_
  refine l_fronto g ?_
  refine l_frontb b ?_
  refine l_call rfl Try.call18 rfl (readp_ok _ _ b g 64 c (sk2 M) (sk2_len (by omega) (by omega)) hc (by omega) (sk2_u hMu (by omega) (by omega)) (by omega) 20 (by omega) (by omega) 16 (by omega) (by omega)) ?_; rintro _ _ ⟨ar, qr, cr, Tr, frr, thr, er, rfl, hTr, har, rfl, hGr⟩
  obtain ⟨hTM, rfl, rfl⟩ := sk_read (by omega) (by omega) hGr
  have hTM2 := hTM.symm
  subst hTM2
  clear hTM
  obtain rfl := hMl.symm.trans hTr
  refine l_move rfl rfl ?_
  refine l_extract rfl rfl rfl ?_
  refine l_extract rfl rfl rfl ?_
  refine l_extract rfl rfl rfl ?_
  refine l_extract rfl rfl rfl ?_
  refine l_assign rfl rfl ?_
  refine l_assign rfl rfl ?_
  refine l_assign rfl rfl ?_
  refine l_assign rfl rfl ?_
  refine l_nil ?_
  refine g_seq ?_
  refine g_region ?_
  refine l_move rfl rfl ?_
  refine l_fronto g ?_
  refine l_frontb b ?_
  refine l_call rfl Try.call18 rfl (readp_ok _ _ b g 64 c (sk2 M) (sk2_len (by omega) (by omega)) hc (by omega) (sk2_u hMu (by omega) (by omega)) (by omega) 20 (by omega) (by omega) 16 (by omega) (by omega)) ?_; rintro _ _ ⟨ay, qy, cy, Ty, fry, thy, ey, rfl, hTy, hay, rfl, hGy⟩
  obtain ⟨hTM, rfl, rfl⟩ := sk_read (by omega) (by omega) hGy
  have hTM2 := hTM.symm
  subst hTM2
  clear hTM
  obtain rfl := hMl.symm.trans hTy
  refine l_move rfl rfl ?_
  refine l_extract rfl rfl rfl ?_
  refine l_extract rfl rfl rfl ?_
  refine l_extract rfl rfl rfl ?_
  refine l_extract rfl rfl rfl ?_
  refine l_assign rfl rfl ?_
  refine l_assign rfl rfl ?_
  refine l_assign rfl rfl ?_
  refine l_assign rfl rfl ?_
  refine l_nil ?_
  refine g_seq ?_
  refine g_seq ?_
  refine g_region ?_
  refine l_move rfl rfl ?_
  refine l_move rfl rfl ?_
  refine l_fronto gw ?_
  refine l_frontv (.slice ar k cr) ?_
  refine l_call rfl Try.call19 rfl (same_words _ _ ar (some ⟨gw, 0, none⟩) k cr k M (IR.own hMl (mem_getO 0 rfl) har) (IR.own hMl (mem_getO 1 rfl) (.inr ⟨_, rfl⟩)) hMu (by omega)) ?_; rintro _ F9 ⟨rfl, hF9⟩; rw [hF9]; clear hF9 F9
  refine l_not rfl rfl ?_
  refine l_nil ?_
  refine g_cond_f rfl ?_
  refine g_skip ?_
  refine g_seq ?_
  refine g_region ?_
  refine l_move rfl rfl ?_
  refine l_move rfl rfl ?_
  first | refine l_add rfl rfl rfl (w_u32 (by omega) (by omega)) ?_ | refine l_addm (m := 4294967296) rfl wr_u32 rfl rfl ?_
  refine l_frontv (.slice ar k cr) ?_
  refine l_call rfl Try.call14 rfl (spoil_words _ _ ar k cr M har hMl (by omega) _ (by omega) (by omega)) ?_; rintro _ _ rfl
  refine l_nil ?_
  refine g_seq ?_
  refine g_region ?_
  refine l_move rfl rfl ?_
  refine l_fronto g ?_
  refine l_frontb b ?_
  refine l_call rfl Try.call18 rfl (readp_ok _ _ b g 64 c (sk2 M) (sk2_len (by omega) (by omega)) hc (by omega) (sk2_u hMu (by omega) (by omega)) (by omega) 20 (by omega) (by omega) 16 (by omega) (by omega)) ?_; rintro _ _ ⟨az, qz, cz, Tz, frz, thz, ez, rfl, hTz, haz, rfl, hGz⟩
  obtain ⟨hTM, rfl, rfl⟩ := sk_read (by omega) (by omega) hGz
  have hTM2 := hTM.symm
  subst hTM2
  clear hTM
  obtain rfl := hMl.symm.trans hTz
  refine l_move rfl rfl ?_
  refine l_extract rfl rfl rfl ?_
  refine l_extract rfl rfl rfl ?_
  refine l_extract rfl rfl rfl ?_
  refine l_extract rfl rfl rfl ?_
  refine l_assign rfl rfl ?_
  refine l_assign rfl rfl ?_
  refine l_assign rfl rfl ?_
  refine l_assign rfl rfl ?_
  refine l_nil ?_
  refine g_seq ?_
  refine g_region ?_
  refine l_move rfl rfl ?_
  refine l_eql rfl rfl rfl ?_
  refine l_move rfl rfl ?_
  refine l_split 99 rfl ?_ ?_
  · intro hbr
    have hbr := of_decide_eq_true hbr
    refine l_guard_yes rfl rfl ?_
    refine l_move rfl rfl ?_
    refine l_pick_t rfl rfl rfl ?_
    refine l_move rfl rfl ?_
    refine l_guard_yes rfl rfl ?_
    refine l_move rfl rfl ?_
    refine l_guard_yes rfl rfl ?_
    refine l_move rfl rfl ?_
    refine l_guard_yes rfl rfl ?_
    refine l_fronto gw ?_
    refine l_frontv (.slice ay k cy) ?_
    refine l_call rfl Try.call19 rfl (same_words _ _ ay (some ⟨gw, 0, none⟩) k cy k M (IR.own hMl (mem_getO 0 rfl) hay) (IR.own hMl (mem_getO 1 rfl) (.inr ⟨_, rfl⟩)) hMu (by omega)) ?_; rintro _ F9 ⟨rfl, hF9⟩; rw [hF9]; clear hF9 F9
    refine l_pick_t rfl rfl rfl ?_
    refine l_move rfl rfl ?_
    refine l_guard_yes rfl rfl ?_
    refine l_move rfl rfl ?_
    refine l_guard_yes rfl rfl ?_
    refine l_move rfl rfl ?_
    refine l_guard_yes rfl rfl ?_
    refine l_fronto gw ?_
    refine l_frontv (.slice az k cz) ?_
    refine l_call rfl Try.call19 rfl (same_words _ _ az (some ⟨gw, 0, none⟩) k cz k M (IR.own hMl (mem_getO 0 rfl) haz) (IR.own hMl (mem_getO 1 rfl) (.inr ⟨_, rfl⟩)) hMu (by omega)) ?_; rintro _ F9 ⟨rfl, hF9⟩; rw [hF9]; clear hF9 F9
    refine l_pick_t rfl rfl rfl ?_
    refine l_assign rfl rfl ?_
    refine l_nil ?_
    refine g_ret Try.func4 rfl (.tmp rfl .nil) ?_
    (first | exact Gives.mki ⟨rfl, rfl⟩ | exact Gives.mki ⟨(show Value.bool _ = _ from congrArg Value.bool (decide_eq_true (by omega))), rfl⟩)
  · intro hbr
    have hbr := of_decide_eq_false hbr
    (exfalso; omega)
theorem keeps_all (W : World) (a : Option Addr) (n c : Nat) (X : List Int) (hc : n ≤ c) (hm : c ≤ maxLen) (hl : X.length = n) (hwf : ∀ x ∈ X, (Lit.int .u32 x).wf = true) (hx : (n = 0 ∧ (a = none → c = 0)) ∨ ∃ b o, a = some ⟨b, o, none⟩ ∧ ∀ (j : Nat) u, (ints .u32 X)[j]? = some u → W.cell? ⟨b, o + j, none⟩ = some u) (mark : Int) (h2 : 0 ≤ mark ∧ mark ≤ 4294967295) : CallK Try.prog 4 [.slice a n c, .int .u32 mark] W [Old W] (Gives W fun v F2 => v = .bool true ∧ F2 = [Old W]) := by
  simp only [maxLen] at hm
  refine keeps_ok W [Old W] a n c X ⟨hl, ?_⟩ (W32s.of fun x h => wf_u32 (hwf x h)) hc (by omega) mark h2.1 h2.2
  rcases hx with ⟨h, _⟩ | ⟨b, o, rfl, hr⟩
  · exact .inl h
  · exact .inr ⟨b, o, rfl, RowAt.old (by simp) hr⟩
end Go.Proofs.Ythngpcaljljlaaa.Fw
