import Derived.Test.YtjfibfbknfeflaaSSeq
namespace Go.Proofs.Ytjfibfbknfeflaa.Fw
open Go Go.Proofs
set_option linter.unusedVariables false
set_option linter.unusedSimpArgs false
set_option maxRecDepth 10000

/- The keys that were used last. -/
def dd : List Int → List Int
  | [] => []
  | x :: r => x :: (dd r).filter fun y => decide (y ≠ x)
def goL (m : Nat) : List Int → List Int → List Int
  | [], out => out
  | x :: r, out => if out.length < m then (if x ∈ out then goL m r out else goL m r (out ++ [x])) else out
theorem goL_eq (m : Nat) : ∀ (r out : List Int), out.length ≤ m → goL m r out = (out ++ (dd r).filter fun y => decide (y ∉ out)).take m
  | [], out, h => by simp [goL, dd, List.take_of_length_le h]
  | x :: r, out, h => by
    simp only [goL]
    by_cases hl : out.length < m
    · rw [if_pos hl]
      by_cases hx : x ∈ out
      · rw [if_pos hx, goL_eq m r out h]
        congr 2
        simp only [dd, List.filter_cons, decide_not, hx, decide_true, Bool.not_true, Bool.false_eq_true, if_false, List.filter_filter]
        refine List.filter_congr fun y _ => ?_
        by_cases hy : y ∈ out
        · simp [hy]
        · have : y ≠ x := fun e => hy (e ▸ hx)
          simp [hy, this]
      · rw [if_neg hx, goL_eq m r (out ++ [x]) (by rw [List.length_append, List.length_singleton]; omega)]
        simp only [dd, List.filter_cons, decide_not, hx, decide_false, Bool.not_false, if_true, List.filter_filter, List.append_assoc, List.singleton_append]
        congr 3
        refine List.filter_congr fun y _ => ?_
        by_cases hy : y ∈ out <;> by_cases hyx : y = x <;> simp [hy, hyx]
    · rw [if_neg hl, List.take_append_of_le_length (by omega), List.take_of_length_le h]
def latF (m : Nat) (used : List Int) : List Int := goL m used.reverse []
theorem latF_eq (m : Nat) (used : List Int) : latF m used = (dd used.reverse).take m := by
  unfold latF
  rw [goL_eq m _ _ (Nat.zero_le _), List.nil_append, List.filter_eq_self.2 fun y _ => by simp]
theorem dd_nodup : ∀ r, (dd r).Nodup
  | [] => List.nodup_nil
  | x :: r => List.nodup_cons.2 ⟨fun h => by simp at h, (dd_nodup r).filter _⟩
theorem filter_out {D : List Int} {k : Int} (h : k ∉ D) : (D.filter fun y => decide (y ≠ k)) = D := List.filter_eq_self.2 fun y hy => by
  have : y ≠ k := fun e => h (e ▸ hy)
  simp [this]
theorem filter_one : ∀ {D : List Int} {k : Int}, D.Nodup → k ∈ D → (D.filter fun y => decide (y ≠ k)).length + 1 = D.length
  | [], _, _, h => by cases h
  | x :: D, k, hn, h => by
    obtain ⟨h1, h2⟩ := List.nodup_cons.1 hn
    rcases List.mem_cons.1 h with rfl | h
    · rw [List.filter_cons, if_neg (by simp), filter_out h1]; rfl
    · have hx : x ≠ k := fun e => h1 (e ▸ h)
      rw [List.filter_cons, if_pos (by simp [hx]), List.length_cons, List.length_cons, filter_one h2 h]
/-- The keys behind a use of k, the latest first. -/
theorem lru_step {m : Nat} (hm : 1 ≤ m) {D : List Int} (hD : D.Nodup) (k : Int) : (k :: D.filter fun y => decide (y ≠ k)).take m =
    k :: (if k ∈ D.take m then (D.take m).filter (fun y => decide (y ≠ k)) else if (D.take m).length = m then (D.take m).take (m - 1) else D.take m) := by
  obtain ⟨m, rfl⟩ : ∃ j, m = j + 1 := ⟨m - 1, by omega⟩
  rw [List.take_succ_cons, Nat.add_sub_cancel]
  congr 1
  have hs : D.filter (fun y => decide (y ≠ k)) = (D.take (m + 1)).filter (fun y => decide (y ≠ k)) ++ (D.drop (m + 1)).filter (fun y => decide (y ≠ k)) := by
    rw [← List.filter_append, List.take_append_drop]
  by_cases h : k ∈ D.take (m + 1)
  · rw [if_pos h, hs]
    have h1 := filter_one (hD.sublist (List.take_sublist ..)) h
    rw [List.length_take] at h1
    by_cases hl : m + 1 ≤ D.length
    · rw [List.take_append_of_le_length (by omega), List.take_of_length_le (by omega)]
    · rw [List.drop_eq_nil_of_le (by omega), List.filter_nil, List.append_nil, List.take_of_length_le (by omega)]
  · rw [if_neg h, hs, filter_out h]
    by_cases hl : (D.take (m + 1)).length = m + 1
    · rw [if_pos hl, List.take_append_of_le_length (by omega)]
    · rw [if_neg hl]
      rw [List.length_take] at hl
      rw [List.drop_eq_nil_of_le (by omega), List.filter_nil, List.append_nil, List.take_of_length_le (by rw [List.length_take]; omega)]
def ks (L : List (Int × Int)) : List Int := L.map (·.1)
theorem ks_del (L : List (Int × Int)) (k : Int) : ks (delK L k) = (ks L).filter fun y => decide (y ≠ k) := by
  unfold ks delK
  rw [List.filter_map]
  congr 1
  refine List.filter_congr fun p _ => ?_
  simp
theorem ks_has (L : List (Int × Int)) (k : Int) : hasK L k = true ↔ k ∈ ks L := by
  unfold hasK ks
  rw [List.any_eq_true]
  constructor
  · rintro ⟨p, hp, h⟩
    exact List.mem_map.2 ⟨p, hp, by simpa using h⟩
  · intro h
    obtain ⟨p, hp, e⟩ := List.mem_map.1 h
    exact ⟨p, hp, by simp [e]⟩
/-- The row holds the keys that were used last. -/
def Lru (room : Nat) (used : List Int) (L : List (Int × Int)) : Prop := ks L = (latF room used).reverse
theorem Lru.nil (room : Nat) : Lru room [] [] := by simp [Lru, ks, latF, goL]
theorem Lru.len {room : Nat} {used : List Int} {L : List (Int × Int)} (h : Lru room used L) : L.length ≤ room := by
  have h1 := congrArg List.length h
  rw [latF_eq] at h1
  simp only [ks, List.length_map, List.length_reverse, List.length_take] at h1
  omega
theorem Lru.has {room : Nat} {used : List Int} {L : List (Int × Int)} (h : Lru room used L) (k : Int) : hasK L k = decide (k ∈ latF room used) := by
  have h1 : (hasK L k = true) ↔ k ∈ latF room used := by
    rw [ks_has, h, List.mem_reverse]
  by_cases h2 : k ∈ latF room used
  · rw [h1.2 h2]; simp [h2]
  · have : hasK L k ≠ true := fun e => h2 (h1.1 e)
    simp [h2, this]
theorem latF_snoc {room : Nat} (hr : 1 ≤ room) (used : List Int) (k : Int) : latF room (used ++ [k]) = k :: (if k ∈ latF room used then (latF room used).filter (fun y => decide (y ≠ k)) else if (latF room used).length = room then (latF room used).take (room - 1) else latF room used) := by
  simp only [latF_eq]
  rw [List.reverse_append, List.reverse_singleton, List.singleton_append]
  exact lru_step hr (dd_nodup _) k
theorem Lru.put {room : Nat} (hr : 1 ≤ room) {used : List Int} {L : List (Int × Int)} (h : Lru room used L) (k v : Int) : Lru room (used ++ [k]) (putK room L k v) := by
  unfold Lru at h ⊢
  have hl : L.length = (latF room used).length := by have := congrArg List.length h; simpa [ks] using this
  have hh := Lru.has (room := room) (used := used) h k
  rw [latF_snoc hr]
  unfold putK
  by_cases h1 : k ∈ latF room used
  · rw [if_pos (by rw [hh]; simp [h1]), if_pos h1]
    simp only [ks, List.map_append, List.map_cons, List.map_nil, List.reverse_cons]
    have := ks_del L k
    unfold ks at this h
    rw [this, h, List.filter_reverse]
  · rw [if_neg (by rw [hh]; simp [h1]), if_neg h1]
    by_cases h2 : (L.length : Int) = room
    · rw [if_pos h2, if_pos (by omega)]
      simp only [ks, List.map_append, List.map_cons, List.map_nil, List.reverse_cons, List.map_drop]
      unfold ks at h
      rw [h, List.drop_reverse]
      congr 3
      omega
    · rw [if_neg h2, if_neg (by omega)]
      simp only [ks, List.map_append, List.map_cons, List.map_nil, List.reverse_cons]
      unfold ks at h
      rw [h]
theorem Lru.get {room : Nat} (hr : 1 ≤ room) {used : List Int} {L : List (Int × Int)} (h : Lru room used L) {k : Int} (hk : hasK L k = true) : Lru room (used ++ [k]) (getK L k) := by
  have := h.put hr k (valK L k)
  unfold putK at this
  rw [if_pos hk] at this
  unfold getK
  rw [if_pos hk]
  exact this

theorem getD_mem0 {X : List Int} {i : Nat} (h : i < X.length) : X.getD i 0 ∈ X := by
  have e : X.getD i 0 = X[i] := by simp [h]
  rw [e]; exact List.getElem_mem _
theorem not_mem_getD {X : List Int} {k : Int} (h : ∀ j : Nat, j < X.length → X.getD j 0 ≠ k) : k ∉ X := fun hm => by
  obtain ⟨j, hj, e⟩ := List.mem_iff_getElem.1 hm
  exact h j hj (by simp [hj, e])
theorem take_rev {U : List Int} {i : Nat} (h : i < U.length) : (U.take (i + 1)).reverse = U.getD i 0 :: (U.take i).reverse := by
  have e : U[i]? = some (U.getD i 0) := by simp [h]
  rw [List.take_add_one, e]
  simp
theorem rev_getD {l : List Int} {i : Nat} (h : i < l.length) : l.reverse.getD i 0 = l.getD (l.length - 1 - i) 0 := by
  simp only [List.getD_eq_getElem?_getD]
  rw [List.getElem?_reverse h]
theorem bool_any {w0 : World} {F0 F : List Atom} {b o : Nat} {W : List Bool} (h : RowAt w0 F0 b o (W.map Value.bool)) [e : Ext F0 F] {j : Nat} (hj : j < W.length) : CellAt w0 F b (o + j * 1) (.bool (W.getD j false)) := by
  have := h.ex (F := F).cell (j := j) (v := .bool (W.getD j false)) (by simp [hj])
  simpa using this
theorem word_from {w0 : World} {F : List Atom} {E : Nat} {kd : IntKind} {g m cap : Nat} {W : List Int} {j q : Nat} (hm : Own E 1 (.slice (some ⟨g, 0, none⟩) m cap) m (ints kd W) ∈ F) (hj : j < W.length) (hq : q = j) : CellAt w0 F g (0 + q * 1) (.int kd (W.getD j 0)) := by
  rw [hq]; exact word_at hm hj
theorem gp_take {P : Program} {f : Fr} {w0 : World} {K : Post} {n : Nat} {d : List Deferred} {ops : Array Oper} {k : List Item} {D A : List Nat} {e : Env} {F F' : List Atom} (B : Atom) [h : Takes F B F'] (hk : GP P f w0 K n d ops k D A e (B :: F')) : GP P f w0 K n d ops k D A e F := fun hreg hac hPA hp => by
  intro X hX fuel listed a w h1 h2 h3 h4 hw
  exact hk hreg hac hPA (hp.perm h.perm) X hX fuel listed a w h1 h2 h3 h4 (hw.perm h.perm)
theorem among_ok (w0 : World) (F : List Atom) (a : Option Addr) (n c : Nat) (X : List Int) (hI : IR w0 F .i64 a n X) (hn : n ≤ 9223372036854775806) (k : Int) :
    CallK Try.prog 15 [.slice a n c, .int .i64 k] w0 (F) (Gives w0 fun v F2 => v = .bool (decide (k ∈ X)) ∧ F2 = F) := by
  have hl := hI.1
  refine c_enter Try.func15 rfl rfl rfl ?_
  refine g_seq ?_
  refine g_region ?_
  refine l_assign rfl rfl ?_
  refine l_nil ?_
  refine g_seq ?_
  refine g_seq ?_
  refine g_region ?_
  refine l_assign rfl rfl ?_
  refine l_nil ?_
  refine g_block ?_
  refine g_loopc (X := Int) [(0, _), (1, _)] (.cons rfl (.cons rfl (.nil))) (fun i => 0 ≤ i ∧ i ≤ n ∧ ∀ j : Nat, j < i → X.getD j 0 ≠ k) (fun i => ((n : Int) - i).toNat) (fun i => [(5, .int .i64 i)]) (0) (⟨by omega, by omega, fun j hj => by omega⟩) (.cons rfl .nil) ?_
  rintro i ⟨i0, i1, hne⟩ ih
  dsimp only [List.cons_append, List.nil_append] at ih ⊢
  refine g_seq ?_
  refine g_seq ?_
  refine g_region ?_
  refine l_move rfl rfl ?_
  refine l_move rfl rfl ?_
  refine l_len rfl Try.underlying22 rfl ?_
  refine l_lss rfl rfl rfl ?_
  refine l_nil ?_
  refine g_cond rfl ?_ ?_
  · intro hbr
    have hbr := of_decide_eq_true hbr
    refine g_skip ?_
    refine g_seq ?_
    refine g_block ?_
    refine g_seq ?_
    refine g_region ?_
    refine l_move rfl rfl ?_
    refine l_move rfl rfl ?_
    obtain ⟨b9, o9, rfl, hr9⟩ := hI.some (i := i.toNat) (by omega)
    refine l_ixs rfl Try.underlying22 Try.sizeOf3 rfl rfl (by omega) (by omega) ?_
    refine l_loadc rfl Try.isAgg3 rfl (word_any hr9 (by omega)) ?_
    refine l_move rfl rfl ?_
    refine l_eql rfl rfl rfl ?_
    refine l_nil ?_
    refine g_cond rfl ?_ ?_
    · intro hbr
      have hbr := of_decide_eq_true hbr
      refine g_seq ?_
      refine g_region ?_
      refine l_assign rfl rfl ?_
      refine l_nil ?_
      refine g_ret Try.func15 rfl (.tmp rfl .nil) ?_
      (first | exact Gives.mki ⟨congrArg Value.bool (decide_eq_true (by rw [← hbr]; exact getD_mem0 (by omega))).symm, rfl⟩ | exact Gives.mki ⟨congrArg Value.bool (decide_eq_false (not_mem_getD fun j hj => hne j (by omega))).symm, rfl⟩)
    intro hbr
    have hbr := of_decide_eq_false hbr
    refine g_skip ?_
    refine g_inBlock ?_
    refine g_region ?_
    refine l_move rfl rfl ?_
    first | refine l_add rfl rfl rfl (w_i64 (by omega) (by omega)) ?_ | refine l_addw rfl rfl rfl ?_
    refine l_assign rfl rfl ?_
    refine l_nil ?_
    exact g_againi (ih (i + 1) ⟨by omega, by omega, fun j hj => by rcases (show (j : Int) < i ∨ j = i.toNat by omega) with h | rfl; (exact hne j h); exact hbr⟩ (by omega)) (.cons rfl (.cons rfl (.cons rfl (.nil))))
  intro hbr
  have hbr := of_decide_eq_false hbr
  refine g_exit rfl ?_
  refine g_seq ?_
  refine g_region ?_
  refine l_assign rfl rfl ?_
  refine l_nil ?_
  refine g_ret Try.func15 rfl (.tmp rfl .nil) ?_
  (first | exact Gives.mki ⟨congrArg Value.bool (decide_eq_true (by rw [← hbr]; exact getD_mem0 (by omega))).symm, rfl⟩ | exact Gives.mki ⟨congrArg Value.bool (decide_eq_false (not_mem_getD fun j hj => hne j (by omega))).symm, rfl⟩)
set_option maxHeartbeats 4000000 in
theorem lately_ok (w0 : World) (F : List Atom) (a : Option Addr) (n c : Nat) (U : List Int) (hI : IR w0 F .i64 a n U) (hn : n ≤ 2147483647) (m : Nat) (m1 : 1 ≤ m) (m2 : m ≤ 4096) :
    CallK Try.prog 16 [.slice a n c, .int .i64 (m : Int)] w0 (F) (Gives w0 fun v F2 => ∃ a2 c2, v = .slice a2 (latF m U).length c2 ∧ ((latF m U).length = 0 ∨ ∃ g, a2 = some ⟨g, 0, none⟩) ∧ F2 = Own 3 1 (.slice a2 (latF m U).length c2) (latF m U).length (ints .i64 (latF m U)) :: F) := by
  have hl := hI.1
  refine c_enter Try.func16 rfl rfl rfl ?_
  refine g_seq ?_
  refine g_region ?_
  refine l_assign rfl rfl ?_
  refine l_nil ?_
  refine g_seq ?_
  refine g_region ?_
  refine l_assign rfl rfl ?_
  refine l_nil ?_
  refine g_seq ?_
  refine g_seq ?_
  refine g_region ?_
  refine l_move rfl rfl ?_
  refine l_len rfl Try.underlying22 rfl ?_
  first | refine l_sub_ rfl rfl rfl (w_i64 (by omega) (by omega)) ?_ | refine l_subw rfl rfl rfl ?_
  refine l_assign rfl rfl ?_
  refine l_nil ?_
  refine g_block ?_
  refine g_own_nil 3 1 ?_
  refine g_loopk (X := Int × Option Addr × Nat × List Int) [(0, _), (1, _), (4, _)] (.cons rfl (.cons rfl (.cons rfl (.nil)))) (fun z => -1 ≤ z.1 ∧ z.1 < n ∧ z.2.2.2.length ≤ m ∧ z.2.2.2.length ≤ n ∧ goL m (U.take (z.1 + 1).toNat).reverse z.2.2.2 = latF m U ∧ (z.2.2.2.length + z.1 + 1 ≤ n) ∧ (z.2.2.2.length = 0 ∨ ∃ g, z.2.1 = some ⟨g, 0, none⟩)) (fun z => (z.1 + 1).toNat) (fun z => [(5, .slice z.2.1 z.2.2.2.length z.2.2.1), (6, .int .i64 z.1)]) (fun z => Own 3 1 (.slice z.2.1 z.2.2.2.length z.2.2.1) z.2.2.2.length (ints .i64 z.2.2.2) :: F) (((n : Int) - 1, none, 0, [])) (⟨by simp only; omega, by simp only; omega, Nat.zero_le _, Nat.zero_le _, by simp only; rw [show ((n : Int) - 1 + 1).toNat = n by omega, List.take_of_length_le (by omega)]; rfl, by simp only [List.length_nil]; omega, .inl rfl⟩) (.cons rfl (.cons rfl .nil)) (fun w hw => hw) ?_
  rintro ⟨i, a1, c1, out⟩ ⟨i0, i1, o1, o2, hg, o3, ho⟩ ih
  dsimp only [List.cons_append, List.nil_append] at ih ⊢
  simp only at i0 i1 o1 o2 hg o3 ho
  refine g_seq ?_
  refine g_seq ?_
  refine g_region ?_
  refine l_move rfl rfl ?_
  refine l_geq rfl rfl rfl ?_
  refine l_move rfl rfl ?_
  refine l_split 12 rfl ?_ ?_
  · intro hbr
    have hbr := of_decide_eq_true hbr
    refine l_guard_yes rfl rfl ?_
    refine l_move rfl rfl ?_
    refine l_guard_yes rfl rfl ?_
    refine l_len rfl Try.underlying22 rfl ?_
    refine l_guard_yes rfl rfl ?_
    refine l_move rfl rfl ?_
    refine l_guard_yes rfl rfl ?_
    refine l_lss rfl rfl rfl ?_
    refine l_pick_t rfl rfl rfl ?_
    refine l_nil ?_
    refine g_cond rfl ?_ ?_
    · intro hbr
      have hbr := of_decide_eq_true hbr
      refine g_skip ?_
      refine g_seq ?_
      refine g_block ?_
      refine g_seq ?_
      refine g_region ?_
      refine l_move rfl rfl ?_
      refine l_move rfl rfl ?_
      refine l_move rfl rfl ?_
      obtain ⟨b9, o9, rfl, hr9⟩ := hI.some (i := i.toNat) (by omega)
      refine l_ixs rfl Try.underlying22 Try.sizeOf3 rfl rfl (by omega) (by omega) ?_
      refine l_loadc rfl Try.isAgg3 rfl (word_any hr9 (by omega)) ?_
      refine l_call rfl Try.call15 rfl (among_ok _ _ a1 out.length c1 out (IR.own rfl (by first | exact mem_getO 0 rfl | exact mem_getO 1 rfl | exact mem_getO 2 rfl | exact mem_getO 3 rfl) ho) (by omega) (U.getD i.toNat 0)) ?_; rintro _ _ ⟨rfl, rfl⟩
      refine l_not rfl rfl ?_
      refine l_nil ?_
      refine g_cond rfl ?_ ?_
      · intro hbr
        have hb26 := hbr
        refine g_region ?_
        refine l_move rfl rfl ?_
        refine l_move rfl rfl ?_
        refine l_move rfl rfl ?_
        refine l_ixs rfl Try.underlying22 Try.sizeOf3 rfl rfl (by omega) (by omega) ?_
        refine l_loadc rfl Try.isAgg3 rfl (word_any hr9 (by omega)) ?_
        refine l_frontv (.slice a1 out.length c1) ?_
        refine l_buildSlice rfl Try.underlying22 Try.sizeOf3 Try.zeroValue3 rfl rfl rfl rfl rfl rfl ?_; intro b32
        refine l_does rfl (does_apps 1 (by_ := 8) (kd := .i64) (V := out) (W := [U.getD i.toNat 0]) (m := out.length) (m2 := 1) (m3 := (out ++ [U.getD i.toNat 0]).length) (V3 := out ++ [U.getD i.toNat 0]) Try.underlying22 Try.type3 rfl rfl rfl rfl rfl rfl rfl ⟨rfl, .inl ⟨_, _, _, rfl, .own (mem_getO 0 rfl)⟩⟩ (by omega) (by simp only [maxLen]; omega) (by simp) rfl (fun _ _ => rfl)) ?_
        rintro _ _ ⟨a33, c33, ha33, hn33, rfl, rfl⟩
        refine l_assign rfl rfl ?_
        refine l_nil ?_
        refine g_inBlock ?_
        refine g_region ?_
        refine l_move rfl rfl ?_
        first | refine l_sub_ rfl rfl rfl (w_i64 (by omega) (by omega)) ?_ | refine l_subw rfl rfl rfl ?_
        refine l_assign rfl rfl ?_
        refine l_nil ?_
        (first | exact g_againi (ih (i - 1, a33, c33, out ++ [U.getD i.toNat 0]) ⟨by simp only; omega, by simp only; omega, by simp only [List.length_append, List.length_singleton]; omega, by simp only [List.length_append, List.length_singleton]; omega, by simp only; rw [← hg, show (i + 1).toNat = i.toNat + 1 by omega, take_rev (by omega), show (i - 1 + 1).toNat = i.toNat by omega]; simp only [goL]; rw [if_pos (by omega), if_neg (of_decide_eq_false (by simpa using hb26))], by simp only [List.length_append, List.length_singleton]; omega, .inr (ha33.resolve_left (by simp))⟩ (by simp only; omega)) (.cons rfl (.cons rfl (.cons rfl (.cons rfl (.cons rfl (.nil)))))) | exact g_againi (ih (i - 1, a1, c1, out) ⟨by simp only; omega, by simp only; omega, o1, o2, by simp only; rw [← hg, show (i + 1).toNat = i.toNat + 1 by omega, take_rev (by omega), show (i - 1 + 1).toNat = i.toNat by omega]; simp only [goL]; rw [if_pos (by omega), if_pos (of_decide_eq_true (by simpa using hb26))], by simp only; omega, ho⟩ (by simp only; omega)) (.cons rfl (.cons rfl (.cons rfl (.cons rfl (.cons rfl (.nil)))))))
      intro hbr
      have hb26 := hbr
      refine g_skip ?_
      refine g_inBlock ?_
      refine g_region ?_
      refine l_move rfl rfl ?_
      first | refine l_sub_ rfl rfl rfl (w_i64 (by omega) (by omega)) ?_ | refine l_subw rfl rfl rfl ?_
      refine l_assign rfl rfl ?_
      refine l_nil ?_
      (first | exact g_againi (ih (i - 1, a33, c33, out ++ [U.getD i.toNat 0]) ⟨by simp only; omega, by simp only; omega, by simp only [List.length_append, List.length_singleton]; omega, by simp only [List.length_append, List.length_singleton]; omega, by simp only; rw [← hg, show (i + 1).toNat = i.toNat + 1 by omega, take_rev (by omega), show (i - 1 + 1).toNat = i.toNat by omega]; simp only [goL]; rw [if_pos (by omega), if_neg (of_decide_eq_false (by simpa using hb26))], by simp only [List.length_append, List.length_singleton]; omega, .inr (ha33.resolve_left (by simp))⟩ (by simp only; omega)) (.cons rfl (.cons rfl (.cons rfl (.cons rfl (.cons rfl (.nil)))))) | exact g_againi (ih (i - 1, a1, c1, out) ⟨by simp only; omega, by simp only; omega, o1, o2, by simp only; rw [← hg, show (i + 1).toNat = i.toNat + 1 by omega, take_rev (by omega), show (i - 1 + 1).toNat = i.toNat by omega]; simp only [goL]; rw [if_pos (by omega), if_pos (of_decide_eq_true (by simpa using hb26))], by simp only; omega, ho⟩ (by simp only; omega)) (.cons rfl (.cons rfl (.cons rfl (.cons rfl (.cons rfl (.nil)))))))
    intro hbr
    have hbr := of_decide_eq_false hbr
    refine g_exit rfl ?_
    have hout : out = latF m U := by
      rw [← hg]
      rcases (show i = -1 ∨ (0 ≤ i ∧ ¬ out.length < m) by omega) with rfl | ⟨h1, h2⟩
      · rfl
      · rw [show (i + 1).toNat = i.toNat + 1 by omega, take_rev (by omega)]
        simp only [goL]
        rw [if_neg h2]
    subst hout
    refine g_seq ?_
    refine g_region ?_
    refine l_move rfl rfl ?_
    refine l_assign rfl rfl ?_
    refine l_nil ?_
    refine g_ret Try.func16 rfl (.tmp rfl .nil) ?_
    exact Gives.mki ⟨a1, c1, rfl, ho, rfl⟩
  intro hbr
  have hbr := of_decide_eq_false hbr
  refine l_guard_no rfl rfl rfl ?_
  refine l_guard_no rfl rfl rfl ?_
  refine l_guard_no rfl rfl rfl ?_
  refine l_guard_no rfl rfl rfl ?_
  refine l_pick_f rfl rfl rfl ?_
  refine l_nil ?_
  refine g_cond_f rfl ?_
  refine g_exit rfl ?_
  have hout : out = latF m U := by
    rw [← hg]
    rcases (show i = -1 ∨ (0 ≤ i ∧ ¬ out.length < m) by omega) with rfl | ⟨h1, h2⟩
    · rfl
    · rw [show (i + 1).toNat = i.toNat + 1 by omega, take_rev (by omega)]
      simp only [goL]
      rw [if_neg h2]
  subst hout
  refine g_seq ?_
  refine g_region ?_
  refine l_move rfl rfl ?_
  refine l_assign rfl rfl ?_
  refine l_nil ?_
  refine g_ret Try.func16 rfl (.tmp rfl .nil) ?_
  exact Gives.mki ⟨a1, c1, rfl, ho, rfl⟩
set_option maxHeartbeats 16000000 in
theorem lat_ok (w0 : World) (F : List Atom) (m0 : Nat) (q1 : 1 ≤ m0) (q2 : m0 ≤ 4096) (a : Option Addr) (n cc : Nat) (Y : List Int) (hI : IR w0 F .i64 a n Y) (hn : n ≤ 2147483647) (ga : Option Addr) (gn gc : Nat) (Gb : List Bool) (hGl : Gb.length = gn) (hgn : gn ≤ 9223372036854775806) (hG : gn = 0 ∨ ∃ b o, ga = some ⟨b, o, none⟩ ∧ RowAt w0 F b o (Gb.map Value.bool)) :
    CallK Try.prog 4 [.int .i64 (m0 : Int), .slice a n cc, .slice ga gn gc] w0 (F) (Gives w0 fun v F2 => v = .bool true ∧ F2 = F) := by
  have hl := hI.1
  have hlat : ∀ U : List Int, (latF m0 U).length ≤ m0 := fun U => by rw [latF_eq, List.length_take]; omega
  refine c_enter Try.func4 rfl rfl rfl ?_
  refine g_seq ?_
  refine g_region ?_
  refine l_alloc rfl Try.zeroValue4 rfl ?_; intro b6
  refine l_nil ?_
  refine g_seq ?_
  refine g_seq ?_
  refine g_region ?_
  refine l_move rfl rfl ?_
  refine l_len rfl Try.underlying22 rfl ?_
  refine l_gtr rfl rfl rfl ?_
  refine l_nil ?_
  refine g_cond rfl ?_ ?_
  · intro hbr
    have hbr := of_decide_eq_true hbr
    (exfalso; first | omega | (simp at hbr; done))
  intro hbr
  have hbr := of_decide_eq_false hbr
  refine g_skip ?_
  refine g_seq ?_
  refine g_region ?_
  refine l_move rfl rfl ?_
  refine l_call rfl Try.call13 rfl (new_ii _ _ (m0 : Int) (by omega) (by omega)) ?_; rintro _ _ ⟨sb, m, rfl, rfl⟩
  refine l_move rfl rfl ?_
  refine l_extract rfl rfl rfl ?_
  refine l_extract rfl rfl rfl ?_
  refine l_assign rfl rfl ?_
  refine l_assign rfl rfl ?_
  refine l_nil ?_
  refine g_seq ?_
  refine g_seq ?_
  refine g_region ?_
  refine l_move rfl rfl ?_
  refine l_neq rfl rfl rfl ?_
  refine l_move rfl rfl ?_
  refine l_split 28 rfl ?_ ?_
  · intro hbr
    have hbr := of_decide_eq_true hbr
    (exfalso; first | omega | (simp at hbr; done))
  intro hbr
  have hbr := of_decide_eq_false hbr
  refine l_guard_yes rfl rfl ?_
  refine l_move rfl rfl ?_
  refine l_guard_yes rfl rfl ?_
  refine l_eqpn rfl Try.underlying34 rfl rfl ?_
  refine l_pick_f rfl rfl rfl ?_
  refine l_nil ?_
  refine g_cond_f rfl ?_
  refine g_skip ?_
  refine g_seq ?_
  refine g_region ?_
  refine l_assign rfl rfl ?_
  refine l_nil ?_
  refine g_seq ?_
  refine g_seq ?_
  refine g_region ?_
  refine l_assign rfl rfl ?_
  refine l_nil ?_
  refine g_block ?_
  refine g_own_nil 3 1 ?_
  refine g_loopk (X := Int × Option Addr × Nat × List Int × List Nd × List (Int × Value)) [(0, _), (1, _), (2, _), (6, _), (7, _)] (.cons rfl (.cons rfl (.cons rfl (.cons rfl (.cons rfl (.nil)))))) (fun z => (0 ≤ z.1 ∧ z.1 ≤ n ∧ z.2.2.2.1.length ≤ z.1) ∧ (z.2.2.2.1.length = 0 ∨ ∃ g, z.2.1 = some ⟨g, 0, none⟩) ∧ ShOk z.2.2.2.2.2 z.2.2.2.2.1 ∧ VI z.2.2.2.2.1 ∧ Lru m0 z.2.2.2.1 (pr z.2.2.2.2.1)) (fun z => ((n : Int) - z.1).toNat) (fun z => [(9, .slice z.2.1 z.2.2.2.1.length z.2.2.1), (10, .int .i64 z.1)]) (fun z => Own 3 1 (.slice z.2.1 z.2.2.2.1.length z.2.2.1) z.2.2.2.1.length (ints .i64 z.2.2.2.1) :: Blk sb (.cells [Value.int .i64 (m0 : Int), .map (some m), .pointer (fstP (z.2.2.2.2.1) none), .pointer (lstP (z.2.2.2.2.1) none)].toArray 71 (0, 0)) :: Seg 75 none (z.2.2.2.2.1) none :: MapI m z.2.2.2.2.2 :: Blk b6 (.cells [Value.bool false].toArray 4 (0, 0)) :: F) ((0, none, 0, [], [], [])) (⟨⟨by simp only; omega, by simp only; omega, by simp⟩, .inl rfl, ShOk.nil, (fun x hx => by cases hx), Lru.nil m0⟩) (.cons rfl (.cons rfl .nil)) (fun w hw => (SPI.holds hw : Holds w0 (Own 3 1 (.slice none 0 0) 0 [] :: Blk sb (.cells [Value.int .i64 (m0 : Int), .map (some m), .pointer (fstP ([]) none), .pointer (lstP ([]) none)].toArray 71 (0, 0)) :: Seg 75 none ([]) none :: MapI m [] :: Blk b6 (.cells [Value.bool false].toArray 4 (0, 0)) :: F) w)) ?_
  rintro ⟨i, ua, uc, U, xs, kv⟩ ⟨⟨i0, i1, u1⟩, hua, hS, hV, hL⟩ ih
  dsimp only [List.cons_append, List.nil_append] at ih ⊢
  simp only at i0 i1 u1 hua hS hV hL
  have hxl := hL.len
  rw [pr_len] at hxl
  refine g_seq ?_
  refine g_seq ?_
  refine g_region ?_
  refine l_move rfl rfl ?_
  refine l_move rfl rfl ?_
  refine l_len rfl Try.underlying22 rfl ?_
  refine l_lss rfl rfl rfl ?_
  refine l_nil ?_
  refine g_cond rfl ?_ ?_
  · intro hbr
    have hbr := of_decide_eq_true hbr
    refine g_skip ?_
    refine g_seq ?_
    refine g_block ?_
    refine g_seq ?_
    refine g_region ?_
    refine l_move rfl rfl ?_
    refine l_move rfl rfl ?_
    obtain ⟨b9, o9, rfl, hr9⟩ := hI.some (i := i.toNat) (by omega)
    refine l_ixs rfl Try.underlying22 Try.sizeOf3 rfl rfl (by omega) (by omega) ?_
    refine l_loadc rfl Try.isAgg3 rfl (word_any hr9 (by omega)) ?_
    refine l_assign rfl rfl ?_
    refine l_nil ?_
    refine g_seq ?_
    refine g_seq ?_
    refine g_region ?_
    refine l_move rfl rfl ?_
    refine l_move rfl rfl ?_
    refine l_len rfl Try.underlying33 rfl ?_
    refine l_lss rfl rfl rfl ?_
    refine l_move rfl rfl ?_
    refine l_split 55 rfl ?_ ?_
    · intro hbr
      have hbr := of_decide_eq_true hbr
      refine l_guard_yes rfl rfl ?_
      refine l_move rfl rfl ?_
      refine l_guard_yes rfl rfl ?_
      refine l_move rfl rfl ?_
      refine l_guard_yes rfl rfl ?_
      obtain ⟨bG, oG, rfl, hrG⟩ := hG.resolve_left (by omega)
      refine l_ixs rfl Try.underlying33 Try.sizeOf4 rfl rfl (by omega) (by omega) ?_
      refine l_guard_yes rfl rfl ?_
      refine l_loadc (v := .bool (Gb.getD i.toNat false)) rfl Try.isAgg4 rfl (bool_any hrG (by omega)) ?_
      refine l_pick_t rfl rfl rfl ?_
      refine l_nil ?_
      refine g_cond rfl ?_ ?_
      · intro hbr
        have hb60 := hbr
        refine g_seq ?_
        refine g_region ?_
        refine l_move rfl rfl ?_
        refine l_move rfl rfl ?_
        refine gl_heap (F' := Blk sb (.cells [Value.int .i64 (m0 : Int), .map (some m), .pointer (fstP (xs) none), .pointer (lstP (xs) none)].toArray 71 (0, 0)) :: Seg 75 none (xs) none :: MapI m kv :: Own 3 1 (.slice ua U.length uc) U.length (ints .i64 U) :: Blk b6 (.cells [Value.bool false].toArray 4 (0, 0)) :: F) (fun w hw => SPI.holds hw) ?_
        refine l_call rfl Try.call14 rfl (get_any _ _ sb m (m0 : Int) kv xs hS hV (Y.getD i.toNat 0)) ?_; rintro _ _ ⟨r9, y, rfl, hS2, hV2, hP2, rfl⟩
        refine l_move rfl rfl ?_
        refine l_extract rfl rfl rfl ?_
        refine l_extract rfl rfl rfl ?_
        refine l_assign rfl rfl ?_
        refine l_assign rfl rfl ?_
        refine l_nil ?_
        refine g_seq ?_
        refine g_seq ?_
        refine g_region ?_
        refine l_move rfl rfl ?_
        refine l_move rfl rfl ?_
        refine l_move rfl rfl ?_
        refine l_call rfl Try.call16 rfl (lately_ok _ _ ua U.length uc U (IR.own rfl (by first | exact mem_getO 0 rfl | exact mem_getO 1 rfl | exact mem_getO 2 rfl | exact mem_getO 3 rfl | exact mem_getO 4 rfl | exact mem_getO 5 rfl | exact mem_getO 6 rfl | exact mem_getO 7 rfl | exact mem_getO 8 rfl | exact mem_getO 9 rfl) hua) (by omega) m0 (by omega) (by omega)) ?_; rintro _ _ ⟨la, lc, rfl, hla, rfl⟩
        refine l_move rfl rfl ?_
        refine l_call rfl Try.call15 rfl (among_ok _ _ la (latF m0 U).length lc (latF m0 U) (IR.own rfl (by first | exact mem_getO 0 rfl | exact mem_getO 1 rfl | exact mem_getO 2 rfl | exact mem_getO 3 rfl | exact mem_getO 4 rfl | exact mem_getO 5 rfl | exact mem_getO 6 rfl | exact mem_getO 7 rfl | exact mem_getO 8 rfl | exact mem_getO 9 rfl) hla) (by have := hlat U; omega) (Y.getD i.toNat 0)) ?_; rintro _ _ ⟨rfl, rfl⟩
        rw [← hL.has (Y.getD i.toNat 0)]
        refine l_neqb rfl Try.underlying4 rfl rfl ?_
        refine l_nil ?_
        refine g_cond rfl ?_ ?_
        · intro hbr
          first | (exfalso; simp at hbr; done) | (exfalso; simp at hbr; omega) | (exfalso; first | omega | (simp at hbr; done))
        intro hbr
        have hb73 := hbr
        refine g_skip ?_
        refine g_seq ?_
        refine g_region ?_
        refine l_move rfl rfl ?_
        refine l_not rfl rfl ?_
        refine l_nil ?_
        refine g_cond rfl ?_ ?_
        · intro hbr
          have hb75 := hbr
          refine g_exit rfl ?_
          refine g_region ?_
          refine l_move rfl rfl ?_
          first | refine l_add rfl rfl rfl (w_i64 (by omega) (by omega)) ?_ | refine l_addw rfl rfl rfl ?_
          refine l_assign rfl rfl ?_
          refine l_nil ?_
          (first | exact g_againi (ih (i + 1, a83, c83, U ++ [Y.getD i.toNat 0], y, lv) ⟨⟨by simp only; omega, by simp only; omega, by simp only [List.length_append, List.length_singleton]; omega⟩, .inr (ha83.resolve_left (by simp)), hS2, hV2, by simp only; rw [hP2]; exact hL.put (by omega) _ _⟩ (by simp only; omega)) (.cons rfl (.cons rfl (.cons rfl (.cons rfl (.cons rfl (.cons rfl (.cons rfl (.nil)))))))) | exact g_againi (ih (i + 1, a83, c83, U ++ [Y.getD i.toNat 0], y, kv) ⟨⟨by simp only; omega, by simp only; omega, by simp only [List.length_append, List.length_singleton]; omega⟩, .inr (ha83.resolve_left (by simp)), hS2, hV2, by simp only; rw [hP2]; exact hL.get (by omega) (by simpa using hb75)⟩ (by simp only; omega)) (.cons rfl (.cons rfl (.cons rfl (.cons rfl (.cons rfl (.cons rfl (.cons rfl (.nil)))))))) | exact g_againi (ih (i + 1, ua, uc, U, y, kv) ⟨⟨by simp only; omega, by simp only; omega, by simp only; omega⟩, hua, hS2, hV2, by simp only; rw [hP2]; unfold getK; rw [if_neg (by simpa using hb75)]; exact hL⟩ (by simp only; omega)) (.cons rfl (.cons rfl (.cons rfl (.cons rfl (.cons rfl (.cons rfl (.cons rfl (.nil)))))))))
        intro hbr
        have hb75 := hbr
        refine g_skip ?_
        refine g_region ?_
        refine l_move rfl rfl ?_
        refine l_move rfl rfl ?_
        refine l_frontv (.slice ua U.length uc) ?_
        refine l_buildSlice rfl Try.underlying22 Try.sizeOf3 Try.zeroValue3 rfl rfl rfl rfl rfl rfl ?_; intro b82
        refine l_does rfl (does_apps 1 (by_ := 8) (kd := .i64) (V := U) (W := [Y.getD i.toNat 0]) (m := U.length) (m2 := 1) (m3 := (U ++ [Y.getD i.toNat 0]).length) (V3 := U ++ [Y.getD i.toNat 0]) Try.underlying22 Try.type3 rfl rfl rfl rfl rfl rfl rfl ⟨rfl, .inl ⟨_, _, _, rfl, .own (mem_getO 0 rfl)⟩⟩ (by omega) (by simp only [maxLen]; omega) (by simp) rfl (fun _ _ => rfl)) ?_
        rintro _ _ ⟨a83, c83, ha83, hn83, rfl, rfl⟩
        refine l_assign rfl rfl ?_
        refine l_nil ?_
        refine g_inBlock ?_
        refine g_region ?_
        refine l_move rfl rfl ?_
        first | refine l_add rfl rfl rfl (w_i64 (by omega) (by omega)) ?_ | refine l_addw rfl rfl rfl ?_
        refine l_assign rfl rfl ?_
        refine l_nil ?_
        (first | exact g_againi (ih (i + 1, a83, c83, U ++ [Y.getD i.toNat 0], y, lv) ⟨⟨by simp only; omega, by simp only; omega, by simp only [List.length_append, List.length_singleton]; omega⟩, .inr (ha83.resolve_left (by simp)), hS2, hV2, by simp only; rw [hP2]; exact hL.put (by omega) _ _⟩ (by simp only; omega)) (.cons rfl (.cons rfl (.cons rfl (.cons rfl (.cons rfl (.cons rfl (.cons rfl (.nil)))))))) | exact g_againi (ih (i + 1, a83, c83, U ++ [Y.getD i.toNat 0], y, kv) ⟨⟨by simp only; omega, by simp only; omega, by simp only [List.length_append, List.length_singleton]; omega⟩, .inr (ha83.resolve_left (by simp)), hS2, hV2, by simp only; rw [hP2]; exact hL.get (by omega) (by simpa using hb75)⟩ (by simp only; omega)) (.cons rfl (.cons rfl (.cons rfl (.cons rfl (.cons rfl (.cons rfl (.cons rfl (.nil)))))))) | exact g_againi (ih (i + 1, ua, uc, U, y, kv) ⟨⟨by simp only; omega, by simp only; omega, by simp only; omega⟩, hua, hS2, hV2, by simp only; rw [hP2]; unfold getK; rw [if_neg (by simpa using hb75)]; exact hL⟩ (by simp only; omega)) (.cons rfl (.cons rfl (.cons rfl (.cons rfl (.cons rfl (.cons rfl (.cons rfl (.nil)))))))))
      intro hbr
      have hb60 := hbr
      refine g_region ?_
      refine l_move rfl rfl ?_
      refine l_move rfl rfl ?_
      refine l_move rfl rfl ?_
      refine gl_heap (F' := Blk sb (.cells [Value.int .i64 (m0 : Int), .map (some m), .pointer (fstP (xs) none), .pointer (lstP (xs) none)].toArray 71 (0, 0)) :: Seg 75 none (xs) none :: MapI m kv :: Own 3 1 (.slice ua U.length uc) U.length (ints .i64 U) :: Blk b6 (.cells [Value.bool false].toArray 4 (0, 0)) :: F) (fun w hw => SPI.holds hw) ?_
      refine l_call rfl Try.call17 rfl (put_any _ _ sb m (m0 : Int) kv xs hS hV (Y.getD i.toNat 0) (by omega) i) ?_; rintro _ _ ⟨r9, g9, y, lv, rfl, hS2, hV2, hP2, rfl⟩
      refine l_nil ?_
      refine g_region ?_
      refine l_move rfl rfl ?_
      refine l_move rfl rfl ?_
      refine l_frontv (.slice ua U.length uc) ?_
      refine l_buildSlice rfl Try.underlying22 Try.sizeOf3 Try.zeroValue3 rfl rfl rfl rfl rfl rfl ?_; intro b82
      refine l_does rfl (does_apps 1 (by_ := 8) (kd := .i64) (V := U) (W := [Y.getD i.toNat 0]) (m := U.length) (m2 := 1) (m3 := (U ++ [Y.getD i.toNat 0]).length) (V3 := U ++ [Y.getD i.toNat 0]) Try.underlying22 Try.type3 rfl rfl rfl rfl rfl rfl rfl ⟨rfl, .inl ⟨_, _, _, rfl, .own (mem_getO 0 rfl)⟩⟩ (by omega) (by simp only [maxLen]; omega) (by simp) rfl (fun _ _ => rfl)) ?_
      rintro _ _ ⟨a83, c83, ha83, hn83, rfl, rfl⟩
      refine l_assign rfl rfl ?_
      refine l_nil ?_
      refine g_inBlock ?_
      refine g_region ?_
      refine l_move rfl rfl ?_
      first | refine l_add rfl rfl rfl (w_i64 (by omega) (by omega)) ?_ | refine l_addw rfl rfl rfl ?_
      refine l_assign rfl rfl ?_
      refine l_nil ?_
      (first | exact g_againi (ih (i + 1, a83, c83, U ++ [Y.getD i.toNat 0], y, lv) ⟨⟨by simp only; omega, by simp only; omega, by simp only [List.length_append, List.length_singleton]; omega⟩, .inr (ha83.resolve_left (by simp)), hS2, hV2, by simp only; rw [hP2]; exact hL.put (by omega) _ _⟩ (by simp only; omega)) (.cons rfl (.cons rfl (.cons rfl (.cons rfl (.cons rfl (.cons rfl (.cons rfl (.nil)))))))) | exact g_againi (ih (i + 1, a83, c83, U ++ [Y.getD i.toNat 0], y, kv) ⟨⟨by simp only; omega, by simp only; omega, by simp only [List.length_append, List.length_singleton]; omega⟩, .inr (ha83.resolve_left (by simp)), hS2, hV2, by simp only; rw [hP2]; exact hL.get (by omega) (by simpa using hb75)⟩ (by simp only; omega)) (.cons rfl (.cons rfl (.cons rfl (.cons rfl (.cons rfl (.cons rfl (.cons rfl (.nil)))))))) | exact g_againi (ih (i + 1, ua, uc, U, y, kv) ⟨⟨by simp only; omega, by simp only; omega, by simp only; omega⟩, hua, hS2, hV2, by simp only; rw [hP2]; unfold getK; rw [if_neg (by simpa using hb75)]; exact hL⟩ (by simp only; omega)) (.cons rfl (.cons rfl (.cons rfl (.cons rfl (.cons rfl (.cons rfl (.cons rfl (.nil)))))))))
    intro hbr
    have hbr := of_decide_eq_false hbr
    refine l_guard_no rfl rfl rfl ?_
    refine l_guard_no rfl rfl rfl ?_
    refine l_guard_no rfl rfl rfl ?_
    refine l_guard_no rfl rfl rfl ?_
    refine l_pick_f rfl rfl rfl ?_
    refine l_nil ?_
    refine g_cond_f rfl ?_
    refine g_region ?_
    refine l_move rfl rfl ?_
    refine l_move rfl rfl ?_
    refine l_move rfl rfl ?_
    refine gl_heap (F' := Blk sb (.cells [Value.int .i64 (m0 : Int), .map (some m), .pointer (fstP (xs) none), .pointer (lstP (xs) none)].toArray 71 (0, 0)) :: Seg 75 none (xs) none :: MapI m kv :: Own 3 1 (.slice ua U.length uc) U.length (ints .i64 U) :: Blk b6 (.cells [Value.bool false].toArray 4 (0, 0)) :: F) (fun w hw => SPI.holds hw) ?_
    refine l_call rfl Try.call17 rfl (put_any _ _ sb m (m0 : Int) kv xs hS hV (Y.getD i.toNat 0) (by omega) i) ?_; rintro _ _ ⟨r9, g9, y, lv, rfl, hS2, hV2, hP2, rfl⟩
    refine l_nil ?_
    refine g_region ?_
    refine l_move rfl rfl ?_
    refine l_move rfl rfl ?_
    refine l_frontv (.slice ua U.length uc) ?_
    refine l_buildSlice rfl Try.underlying22 Try.sizeOf3 Try.zeroValue3 rfl rfl rfl rfl rfl rfl ?_; intro b82
    refine l_does rfl (does_apps 1 (by_ := 8) (kd := .i64) (V := U) (W := [Y.getD i.toNat 0]) (m := U.length) (m2 := 1) (m3 := (U ++ [Y.getD i.toNat 0]).length) (V3 := U ++ [Y.getD i.toNat 0]) Try.underlying22 Try.type3 rfl rfl rfl rfl rfl rfl rfl ⟨rfl, .inl ⟨_, _, _, rfl, .own (mem_getO 0 rfl)⟩⟩ (by omega) (by simp only [maxLen]; omega) (by simp) rfl (fun _ _ => rfl)) ?_
    rintro _ _ ⟨a83, c83, ha83, hn83, rfl, rfl⟩
    refine l_assign rfl rfl ?_
    refine l_nil ?_
    refine g_inBlock ?_
    refine g_region ?_
    refine l_move rfl rfl ?_
    first | refine l_add rfl rfl rfl (w_i64 (by omega) (by omega)) ?_ | refine l_addw rfl rfl rfl ?_
    refine l_assign rfl rfl ?_
    refine l_nil ?_
    (first | exact g_againi (ih (i + 1, a83, c83, U ++ [Y.getD i.toNat 0], y, lv) ⟨⟨by simp only; omega, by simp only; omega, by simp only [List.length_append, List.length_singleton]; omega⟩, .inr (ha83.resolve_left (by simp)), hS2, hV2, by simp only; rw [hP2]; exact hL.put (by omega) _ _⟩ (by simp only; omega)) (.cons rfl (.cons rfl (.cons rfl (.cons rfl (.cons rfl (.cons rfl (.cons rfl (.nil)))))))) | exact g_againi (ih (i + 1, a83, c83, U ++ [Y.getD i.toNat 0], y, kv) ⟨⟨by simp only; omega, by simp only; omega, by simp only [List.length_append, List.length_singleton]; omega⟩, .inr (ha83.resolve_left (by simp)), hS2, hV2, by simp only; rw [hP2]; exact hL.get (by omega) (by simpa using hb75)⟩ (by simp only; omega)) (.cons rfl (.cons rfl (.cons rfl (.cons rfl (.cons rfl (.cons rfl (.cons rfl (.nil)))))))) | exact g_againi (ih (i + 1, ua, uc, U, y, kv) ⟨⟨by simp only; omega, by simp only; omega, by simp only; omega⟩, hua, hS2, hV2, by simp only; rw [hP2]; unfold getK; rw [if_neg (by simpa using hb75)]; exact hL⟩ (by simp only; omega)) (.cons rfl (.cons rfl (.cons rfl (.cons rfl (.cons rfl (.cons rfl (.cons rfl (.nil)))))))))
  intro hbr
  have hbr := of_decide_eq_false hbr
  refine g_exit rfl ?_
  refine g_seq ?_
  refine g_region ?_
  refine l_move rfl rfl ?_
  refine l_move rfl rfl ?_
  refine l_call rfl Try.call16 rfl (lately_ok _ _ ua U.length uc U (IR.own rfl (by first | exact mem_getO 0 rfl | exact mem_getO 1 rfl | exact mem_getO 2 rfl | exact mem_getO 3 rfl | exact mem_getO 4 rfl | exact mem_getO 5 rfl | exact mem_getO 6 rfl | exact mem_getO 7 rfl | exact mem_getO 8 rfl | exact mem_getO 9 rfl) hua) (by omega) m0 (by omega) (by omega)) ?_; rintro _ _ ⟨wa, wc, rfl, hwa, rfl⟩
  obtain ⟨W, hW⟩ : ∃ W, latF m0 U = W := ⟨_, rfl⟩
  rw [hW] at hwa ⊢
  refine l_alloc rfl Try.zeroValue22 rfl ?_; intro b14
  refine l_st Try.sizeOf22 rfl rfl rfl rfl ?_
  refine l_nil ?_
  refine g_seq ?_
  refine g_region ?_
  refine l_move rfl rfl ?_
  refine l_call rfl Try.call18 rfl (all_ii _ _ _) ?_; rintro _ _ ⟨bm, rfl, rfl⟩
  refine l_assign rfl rfl ?_
  refine l_nil ?_
  refine g_seq ?_
  refine g_seq ?_
  refine g_region ?_
  refine l_move rfl rfl ?_
  refine l_eqfn rfl Try.underlying42 rfl rfl ?_
  refine l_nil ?_
  refine g_cond_f rfl ?_
  refine g_skip ?_
  refine g_seq ?_
  refine g_region ?_
  refine l_ld rfl Try.isAgg22 rfl rfl ?_
  refine l_len rfl Try.underlying22 rfl ?_
  refine l_alloc rfl Try.zeroValue3 rfl ?_; intro b16
  first | refine l_st Try.sizeOf3 rfl rfl rfl rfl ?_ | refine l_stw Try.sizeOf3 rfl rfl (by omega) ?_
  refine l_nil ?_
  refine g_seq ?_
  refine g_seq ?_
  refine g_region ?_
  refine l_move rfl rfl ?_
  refine l_nil ?_
  refine g_block ?_
  refine g_rangeR rfl Try.call38 rfl ?_
  rintro r0 l0 RC0 hRC0
  have hWl : W.length = xs.length := by have h := congrArg List.length hL; rw [hW] at h; simpa [ks, pr] using h.symm
  refine CallK.heap (F2 := RC0 .ready none :: Own 3 1 (.slice wa W.length wc) W.length (ints .i64 W) :: Blk b14 (.cells [Value.slice wa W.length wc].toArray 22 (0, 0)) :: Blk b16 (.cells [Value.int .i64 (W.length : Int)].toArray 3 (0, 0)) :: Blk sb (.cells [Value.int .i64 (m0 : Int), .map (some m), .pointer (fstP (xs) none), .pointer (lstP (xs) none)].toArray 71 (0, 0)) :: Seg 75 none (xs) none :: MapI m kv :: Blk bm (.cells [Value.pointer (some ⟨sb, 0, none⟩)].toArray 34 (0, 0)) :: Blk b6 (.cells [Value.bool false].toArray 4 (0, 0)) :: Dfr r0 :: F) (CallK.mono (seq_s w0 F (fun x : Int => [RC0 .ready none, Own 3 1 (.slice wa W.length wc) W.length (ints .i64 W), Blk b14 (.cells [Value.slice wa W.length wc].toArray 22 (0, 0)), Blk b16 (.cells [Value.int .i64 x].toArray 3 (0, 0)), Blk sb (.cells [Value.int .i64 (m0 : Int), .map (some m), .pointer (fstP (xs) none), .pointer (lstP (xs) none)].toArray 71 (0, 0)), Seg 75 none (xs) none, MapI m kv, Blk bm (.cells [Value.pointer (some ⟨sb, 0, none⟩)].toArray 34 (0, 0)), Blk b6 (.cells [Value.bool false].toArray 4 (0, 0)), Dfr r0]) (fun i x => x = (W.length : Int) - i) (fun _ => False) l0 bm sb xs hV (by omega) (W.length : Int) (by simp) (fun w hw => by have h := hw.ok (Blk bm (.cells [Value.pointer (some ⟨sb, 0, none⟩)].toArray 34 (0, 0))) (by first | exact mem_getO 0 rfl | exact mem_getO 1 rfl | exact mem_getO 2 rfl | exact mem_getO 3 rfl | exact mem_getO 4 rfl | exact mem_getO 5 rfl | exact mem_getO 6 rfl | exact mem_getO 7 rfl | exact mem_getO 8 rfl | exact mem_getO 9 rfl); exact cell_of_has (c := [Value.pointer (some ⟨sb, 0, none⟩)]) (b := bm) (o := 0) h rfl) (fun w hw => by have h := hw.ok (Blk sb (.cells [Value.int .i64 (m0 : Int), .map (some m), .pointer (fstP (xs) none), .pointer (lstP (xs) none)].toArray 71 (0, 0))) (by first | exact mem_getO 0 rfl | exact mem_getO 1 rfl | exact mem_getO 2 rfl | exact mem_getO 3 rfl | exact mem_getO 4 rfl | exact mem_getO 5 rfl | exact mem_getO 6 rfl | exact mem_getO 7 rfl | exact mem_getO 8 rfl | exact mem_getO 9 rfl); exact cell_of_has (c := [Value.int .i64 (m0 : Int), .map (some m), .pointer (fstP (xs) none), .pointer (lstP (xs) none)]) (b := sb) (o := 2) h rfl) (fun j x l2 o v hd hv => by have h9 := drop_cons hd; exact seg_cell (T := 75) (l1 := xs.take j) (x := x) (l2 := l2) (p := none) (n := none) (by rw [← h9.2.1]; first | exact mem_getO 0 rfl | exact mem_getO 1 rfl | exact mem_getO 2 rfl | exact mem_getO 3 rfl | exact mem_getO 4 rfl | exact mem_getO 5 rfl | exact mem_getO 6 rfl | exact mem_getO 7 rfl | exact mem_getO 8 rfl | exact mem_getO 9 rfl) hv) (fun i x T hi hx hT => ?_)) (fun en F2 hG => ?_)) (fun w hw => SPI.holds hw)
  · subst hx
    obtain ⟨gw, rfl⟩ := hwa.resolve_left (by omega)
    have hkey : (xs.map Nd.k).getD i 0 = W.getD (W.length - 1 - i) 0 := by
      have h : ks (pr xs) = W.reverse := by rw [← hW]; exact hL
      rw [← rev_getD (by omega), ← h]
      simp [ks, pr, Function.comp_def]
    dsimp only [List.cons_append, List.nil_append]
    refine c_roundR hRC0 rfl rfl ?_
    dsimp only [putL]
    refine g_region ?_
    refine l_assign rfl rfl ?_
    refine l_nil ?_
    refine g_beginR hRC0 ?_
    refine g_block ?_
    refine g_seq ?_
    refine g_region ?_
    first | refine l_ld rfl Try.isAgg3 rfl rfl ?_ | refine l_ldw rfl Try.isAgg3 rfl (by omega) ?_
    first | refine l_sub_ rfl rfl rfl (w_i64 (by omega) (by omega)) ?_ | refine l_subw rfl rfl rfl ?_
    first | refine l_st Try.sizeOf3 rfl rfl rfl rfl ?_ | refine l_stw Try.sizeOf3 rfl rfl (by omega) ?_
    refine l_nil ?_
    refine g_seq ?_
    refine g_region ?_
    first | refine l_ld rfl Try.isAgg3 rfl rfl ?_ | refine l_ldw rfl Try.isAgg3 rfl (by omega) ?_
    refine l_lss rfl rfl rfl ?_
    refine l_move rfl rfl ?_
    refine l_split 100 rfl ?_ ?_
    · intro hbr
      have hbr := of_decide_eq_true hbr
      (exfalso; first | omega | (simp at hbr; done))
    intro hbr
    have hbr := of_decide_eq_false hbr
    refine l_guard_yes rfl rfl ?_
    refine l_move rfl rfl ?_
    refine l_guard_yes rfl rfl ?_
    refine l_ld rfl Try.isAgg22 rfl rfl ?_
    refine l_guard_yes rfl rfl ?_
    first | refine l_ld rfl Try.isAgg3 rfl rfl ?_ | refine l_ldw rfl Try.isAgg3 rfl (by omega) ?_
    refine l_guard_yes rfl rfl ?_
    refine l_ixs rfl Try.underlying22 Try.sizeOf3 rfl rfl (by omega) (by omega) ?_
    refine l_guard_yes rfl rfl ?_
    refine l_loadc (v := .int .i64 (W.getD (W.length - 1 - i) 0)) rfl Try.isAgg3 rfl (word_from (j := W.length - 1 - i) (show (Own 3 1 (.slice (some ⟨gw, 0, none⟩) W.length wc) W.length (ints .i64 W)) ∈ _ from (by first | exact mem_getO 0 rfl | exact mem_getO 1 rfl | exact mem_getO 2 rfl | exact mem_getO 3 rfl | exact mem_getO 4 rfl | exact mem_getO 5 rfl | exact mem_getO 6 rfl | exact mem_getO 7 rfl | exact mem_getO 8 rfl | exact mem_getO 9 rfl)) (by omega) (by omega)) ?_
    refine l_guard_yes rfl rfl ?_
    refine l_neq rfl rfl rfl ?_
    refine l_pick_f rfl rfl rfl ?_
    refine l_nil ?_
    refine g_cond rfl ?_ ?_
    · intro hbr
      have hbr := of_decide_eq_true hbr
      (exfalso; first | omega | (simp at hbr; done))
    intro hbr
    have hbr := of_decide_eq_false hbr
    refine g_skip ?_
    refine g_inBlock ?_
    refine g_roundE (p := none) (F := Own 3 1 (.slice (some ⟨gw, 0, none⟩) W.length wc) W.length (ints .i64 W) :: Blk b14 (.cells [Value.slice (some ⟨gw, 0, none⟩) W.length wc].toArray 22 (0, 0)) :: Blk b16 (.cells [Value.int .i64 ((W.length : Int) - i - 1)].toArray 3 (0, 0)) :: Blk sb (.cells [Value.int .i64 (m0 : Int), .map (some m), .pointer (fstP (xs) none), .pointer (lstP (xs) none)].toArray 71 (0, 0)) :: Seg 75 none (xs) none :: MapI m kv :: Blk bm (.cells [Value.pointer (some ⟨sb, 0, none⟩)].toArray 34 (0, 0)) :: Blk b6 (.cells [Value.bool false].toArray 4 (0, 0)) :: Dfr r0 :: T) hRC0 (fun w hw => SPI.holds hw) ?_
    exact ⟨_, rfl, true, rfl, fun _ => ⟨(W.length : Int) - i - 1, by omega, fun w hw => hw⟩, fun h => (by cases h)⟩
  obtain ⟨v9, F9, rfl, hR9, hF9⟩ := hG
  refine ⟨⟨_, rfl⟩, ?_⟩
  obtain ⟨x, hx, rfl⟩ := hR9.resolve_right (fun h => by obtain ⟨_, h, _⟩ := h; exact h)
  obtain rfl : x = 0 := by omega
  refine ⟨.ready, none, Own 3 1 (.slice wa W.length wc) W.length (ints .i64 W) :: Blk b14 (.cells [Value.slice wa W.length wc].toArray 22 (0, 0)) :: Blk b16 (.cells [Value.int .i64 0].toArray 3 (0, 0)) :: Blk sb (.cells [Value.int .i64 (m0 : Int), .map (some m), .pointer (fstP (xs) none), .pointer (lstP (xs) none)].toArray 71 (0, 0)) :: Seg 75 none (xs) none :: MapI m kv :: Blk bm (.cells [Value.pointer (some ⟨sb, 0, none⟩)].toArray 34 (0, 0)) :: Blk b6 (.cells [Value.bool false].toArray 4 (0, 0)) :: Dfr r0 :: F, (by intro h; cases h), fun w hw => SPI.holds (show Holds w0 (RC0 .ready none :: Own 3 1 (.slice wa W.length wc) W.length (ints .i64 W) :: Blk b14 (.cells [Value.slice wa W.length wc].toArray 22 (0, 0)) :: Blk b16 (.cells [Value.int .i64 0].toArray 3 (0, 0)) :: Blk sb (.cells [Value.int .i64 (m0 : Int), .map (some m), .pointer (fstP (xs) none), .pointer (lstP (xs) none)].toArray 71 (0, 0)) :: Seg 75 none (xs) none :: MapI m kv :: Blk bm (.cells [Value.pointer (some ⟨sb, 0, none⟩)].toArray 34 (0, 0)) :: Blk b6 (.cells [Value.bool false].toArray 4 (0, 0)) :: Dfr r0 :: F) w from hF9 w hw), ?_⟩
  dsimp only [jumpK]
  refine g_inBlock ?_
  refine g_seq ?_
  refine gp_start mo (by kernel_rfl) (by kernel_rfl) ?_
  first | refine gp_quiet 0 rfl rfl rfl rfl rfl rfl (q_ld Try.isAgg3 rfl rfl) ?_ | refine gp_quiet 0 rfl rfl rfl rfl rfl rfl (q_ldw Try.isAgg3 rfl (by omega)) ?_
  refine gp_quiet 1 rfl rfl rfl rfl rfl rfl (q_eql rfl rfl) ?_
  refine gp_quiet 2 rfl rfl rfl rfl rfl rfl (q_move rfl) ?_
  refine gp_split 110 rfl ?_ ?_
  · intro hbr
    have hg110 := hbr
    have hbr := of_decide_eq_true hbr
    refine gp_quietg 3 rfl rfl rfl rfl rfl rfl (.yes rfl rfl (q_move rfl)) ?_
    refine gp_quietg 5 rfl rfl rfl rfl rfl rfl (.yes rfl rfl (q_ld Try.isAgg22 rfl rfl)) ?_
    refine gp_quietg 6 rfl rfl rfl rfl rfl rfl (.yes rfl rfl (q_len Try.underlying22 rfl)) ?_
    refine gp_take (MapI m kv) ?_
    refine gp_take (Seg 75 none (xs) none) ?_
    refine gp_take (Blk sb (.cells [Value.int .i64 (m0 : Int), .map (some m), .pointer (fstP (xs) none), .pointer (lstP (xs) none)].toArray 71 (0, 0))) ?_
    refine gp_effg 4 rfl rfl rfl rfl rfl rfl (.yes rfl rfl rfl) (Does.guard (does_call Try.call19 rfl (len_ii _ _ sb m (m0 : Int) kv xs hS))) ?_
    rintro _ _ ⟨rfl, rfl⟩
    refine ⟨?_, ?_⟩
    · refine .consG rfl rfl rfl rfl rfl (.yes rfl rfl (q_len Try.underlying22 rfl)) ?_
      refine .consG rfl rfl rfl rfl rfl (.yes rfl rfl (q_ld Try.isAgg22 rfl rfl)) ?_
      refine .consG rfl rfl rfl rfl rfl (.yes rfl rfl (q_move rfl)) ?_
      refine .cons rfl rfl rfl rfl rfl (QV.as (q_move rfl) (congrArg Value.bool hg110)) ?_
      refine .cons rfl rfl rfl rfl rfl (q_eql rfl rfl) ?_
      first | refine .cons rfl rfl rfl rfl rfl (q_ld Try.isAgg3 rfl rfl) ?_ | refine .cons rfl rfl rfl rfl rfl (q_ldw Try.isAgg3 rfl (by omega)) ?_
      exact .nil
    refine gp_quietg 7 rfl rfl rfl rfl rfl rfl (.yes rfl rfl (q_eql rfl rfl)) ?_
    refine gp_quiet 8 rfl rfl rfl rfl rfl rfl (q_pick_t rfl rfl) ?_
    refine gp_effa 9 [0, 1, 2, 3, 5, 6, 7, 8] [] rfl rfl rfl rfl rfl rfl rfl (does_st Try.sizeOf4 rfl rfl rfl rfl) ?_
    rintro _ _ ⟨rfl, rfl⟩
    refine ⟨?_, ?_⟩
    · exact .nil
    refine gp_end rfl rfl ?_
    refine g_heap (F' := Dfr r0 :: Blk b6 (.cells [Value.bool (decide ((xs.length : Int) = (W.length : Int)))].toArray 4 (0, 0)) :: F) (fun w hw => SPI.holds hw) ?_
    refine g_ret_m (F := Blk b6 (.cells [Value.bool (decide ((xs.length : Int) = (W.length : Int)))].toArray 4 (0, 0)) :: F) [r0] rfl Try.func4 (fun w hw => hw) rfl (.ci rfl Try.isAgg4 rfl .nil) ?_
    exact Gives.mki ⟨by rw [decide_eq_true (show (xs.length : Int) = (W.length : Int) by omega)]; rfl, rfl⟩
  · intro hbr
    have hbr := of_decide_eq_false hbr
    (exfalso; first | omega | (simp at hbr; done))
theorem lat_bad (w0 : World) (F : List Atom) (room : Int) (a : Option Addr) (n cc : Nat) (ga : Option Addr) (gn gc : Nat) (hr : ¬ (1 ≤ room ∧ room ≤ 4096) ∨ 2147483647 < n) :
    CallK Try.prog 4 [.int .i64 room, .slice a n cc, .slice ga gn gc] w0 (F) (Gives w0 fun v F2 => v = .bool true ∧ F2 = F) := by
  refine c_enter Try.func4 rfl rfl rfl ?_
  refine g_seq ?_
  refine g_region ?_
  refine l_alloc rfl Try.zeroValue4 rfl ?_; intro b6
  refine l_nil ?_
  refine g_seq ?_
  refine g_seq ?_
  refine g_region ?_
  refine l_move rfl rfl ?_
  refine l_len rfl Try.underlying22 rfl ?_
  refine l_gtr rfl rfl rfl ?_
  refine l_nil ?_
  refine g_cond rfl ?_ ?_
  · intro hbr
    have hbr := of_decide_eq_true hbr
    refine g_seq ?_
    refine g_region ?_
    refine l_st Try.sizeOf4 rfl rfl rfl rfl ?_
    refine l_nil ?_
    refine g_ret Try.func4 rfl (.ci rfl Try.isAgg4 rfl .nil) ?_
    exact Gives.mki ⟨rfl, rfl⟩
  intro hbr
  have hbr := of_decide_eq_false hbr
  refine g_skip ?_
  refine g_seq ?_
  refine g_region ?_
  refine l_move rfl rfl ?_
  refine l_call rfl Try.call13 rfl (newbad_ii _ _ room (by omega)) ?_; rintro _ F9 ⟨rfl, hF9⟩; rw [hF9]; clear hF9 F9
  refine l_move rfl rfl ?_
  refine l_extract rfl rfl rfl ?_
  refine l_extract rfl rfl rfl ?_
  refine l_assign rfl rfl ?_
  refine l_assign rfl rfl ?_
  refine l_nil ?_
  refine g_seq ?_
  refine g_seq ?_
  refine g_region ?_
  refine l_move rfl rfl ?_
  refine l_neq rfl rfl rfl ?_
  refine l_move rfl rfl ?_
  refine l_split 28 rfl ?_ ?_
  · intro hbr
    have hbr := of_decide_eq_true hbr
    refine l_guard_no rfl rfl rfl ?_
    refine l_guard_no rfl rfl rfl ?_
    refine l_pick_t rfl rfl rfl ?_
    refine l_nil ?_
    refine g_cond_t rfl ?_
    refine g_seq ?_
    refine g_region ?_
    refine l_move rfl rfl ?_
    refine l_lss rfl rfl rfl ?_
    refine l_move rfl rfl ?_
    refine l_split 34 rfl ?_ ?_
    · intro hbr
      have hbr := of_decide_eq_true hbr
      refine l_guard_no rfl rfl rfl ?_
      refine l_guard_no rfl rfl rfl ?_
      refine l_pick_t rfl rfl rfl ?_
      refine l_move rfl rfl ?_
      refine l_guard_yes rfl rfl ?_
      refine l_call rfl Try.call9 rfl (awake_ok _ _) ?_; rintro _ F9 ⟨rfl, hF9⟩; rw [hF9]; clear hF9 F9
      refine l_pick_t rfl rfl rfl ?_
      refine l_st Try.sizeOf4 rfl rfl rfl rfl ?_
      refine l_nil ?_
      refine g_ret Try.func4 rfl (.ci rfl Try.isAgg4 rfl .nil) ?_
      exact Gives.mki ⟨rfl, rfl⟩
    intro hbr
    have hbr := of_decide_eq_false hbr
    refine l_guard_yes rfl rfl ?_
    refine l_move rfl rfl ?_
    refine l_guard_yes rfl rfl ?_
    refine l_gtr rfl rfl rfl ?_
    refine l_pick_f rfl rfl rfl ?_
    refine l_move rfl rfl ?_
    refine l_split 38 rfl ?_ ?_
    · intro hbr
      have hbr := of_decide_eq_true hbr
      refine l_guard_yes rfl rfl ?_
      refine l_call rfl Try.call9 rfl (awake_ok _ _) ?_; rintro _ F9 ⟨rfl, hF9⟩; rw [hF9]; clear hF9 F9
      refine l_pick_t rfl rfl rfl ?_
      refine l_st Try.sizeOf4 rfl rfl rfl rfl ?_
      refine l_nil ?_
      refine g_ret Try.func4 rfl (.ci rfl Try.isAgg4 rfl .nil) ?_
      exact Gives.mki ⟨rfl, rfl⟩
    · intro hbr
      have hbr := of_decide_eq_false hbr
      (exfalso; omega)
  · intro hbr
    have hbr := of_decide_eq_false hbr
    (exfalso; omega)
theorem ir_of {W : World} {kd : IntKind} {a : Option Addr} {n c : Nat} {X : List Int} (hl : X.length = n) (hx : (n = 0 ∧ (a = none → c = 0)) ∨ ∃ b o, a = some ⟨b, o, none⟩ ∧ ∀ (j : Nat) u, (ints kd X)[j]? = some u → W.cell? ⟨b, o + j, none⟩ = some u) : IR W [Old W] kd a n X := by
  refine ⟨hl, ?_⟩
  rcases hx with ⟨h, _⟩ | ⟨b, o, h, hr⟩
  · exact .inl h
  · exact .inr ⟨b, o, h, RowAt.old (by simp) hr⟩
theorem lat_all (W : World) (room : Int) (a : Option Addr) (n cc : Nat) (Y : List Int) (hI : IR W [Old W] .i64 a n Y) (ga : Option Addr) (gn gc : Nat) (rows : List (List Value)) (hl : rows.length = gn) (hgn : gn ≤ 9223372036854775806) (hr : ∀ r ∈ rows, Viz Try.prog W 4 r) (hx : (gn = 0 ∧ (ga = none → gc = 0)) ∨ ∃ b o, ga = some ⟨b, o, none⟩ ∧ ∀ (j : Nat) u, rows.flatten[j]? = some u → W.cell? ⟨b, o + j, none⟩ = some u) : CallK Try.prog 4 [.int .i64 room, .slice a n cc, .slice ga gn gc] W [Old W] (Gives W fun v F2 => v = .bool true ∧ F2 = [Old W]) := by
  obtain ⟨Gb, hL, _⟩ := rows_choose (f := fun b => [Value.bool b]) (R := fun _ => True) (rows := rows) (fun r h => by obtain ⟨b, hb⟩ := vis_bool Try.underlying4 (hr r h).vis; exact ⟨b, hb, trivial⟩)
  subst hL
  have hfl : (Gb.map fun b => [Value.bool b]).flatten = Gb.map Value.bool := by
    clear hl hr hx
    induction Gb with
    | nil => rfl
    | cons b l ih => simp [ih]
  rw [hfl] at hx
  by_cases h : (1 ≤ room ∧ room ≤ 4096) ∧ n ≤ 2147483647
  · obtain ⟨m0, rfl⟩ := Int.eq_ofNat_of_zero_le (show 0 ≤ room by omega)
    refine lat_ok W [Old W] m0 (by omega) (by omega) a n cc Y hI h.2 ga gn gc Gb (by simpa using hl) hgn ?_
    rcases hx with ⟨h, _⟩ | ⟨b, o, h, hr⟩
    · exact .inl h
    · exact .inr ⟨b, o, h, RowAt.old (by simp) hr⟩
  · exact lat_bad W [Old W] room a n cc ga gn gc (by omega)
end Go.Proofs.Ytjfibfbknfeflaa.Fw
