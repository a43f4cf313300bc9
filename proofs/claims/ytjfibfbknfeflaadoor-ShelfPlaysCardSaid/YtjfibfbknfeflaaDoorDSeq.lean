import Derived.Test.YtjfibfbknfeflaaDoorDKey
namespace Go.Proofs.YtjfibfbknfeflaaDoor.Fw
open Go Go.Proofs
set_option linter.unusedVariables false
set_option linter.unusedSimpArgs false
set_option maxRecDepth 10000

theorem all_is (w0 : World) (F : List Atom) (p : Option Addr) :
    CallK Tryd.prog 44 [.pointer p] w0 (F) (Gives w0 fun v F2 => ∃ bm, v = .func (.func 58) #[] [.pointer (some ⟨bm, 0, none⟩)].toArray ∧ F2 = Blk bm (.cells [Value.pointer p].toArray 42 (0, 0)) :: F) := by
  refine c_enter Tryd.func44 rfl rfl rfl ?_
  refine g_seq ?_
  refine g_region ?_
  refine l_box rfl rfl rfl ?_; intro b1
  refine l_assign rfl rfl ?_
  refine l_nil ?_
  refine g_seq ?_
  refine g_region ?_
  refine l_makeFunc rfl rfl ?_
  refine l_assign rfl rfl ?_
  refine l_nil ?_
  refine g_ret Tryd.func44 rfl (.tmp rfl .nil) ?_
  exact Gives.mki ⟨b1, rfl, rfl⟩
theorem drop_cons {α : Type} {xs : List α} {j : Nat} {x : α} {l : List α} (h : xs.drop j = x :: l) : xs.drop (j + 1) = l ∧ xs = xs.take j ++ x :: l ∧ j < xs.length ∧ xs[j]? = some x ∧ xs.take (j + 1) = xs.take j ++ [x] := by
  have hl : j < xs.length := by
    rcases Nat.lt_or_ge j xs.length with h2 | h2
    · exact h2
    · rw [List.drop_eq_nil_of_le h2] at h; cases h
  have h1 : xs[j]? = some x := by
    have := congrArg (fun l => l[0]?) h
    simpa using this
  refine ⟨?_, ?_, hl, h1, ?_⟩
  · rw [← List.drop_drop, h]; rfl
  · rw [← h, List.take_append_drop]
  · rw [List.take_add_one, h1]; rfl
theorem holds_mid {w0 : World} {A B : Atom} {H F : List Atom} {w : World} : Holds w0 (A :: B :: (H ++ F)) w ↔ Holds w0 (H ++ A :: B :: F) w := by
  have hp : (A :: B :: (H ++ F)).Perm (H ++ A :: B :: F) := (List.perm_middle.symm.cons A).trans List.perm_middle.symm
  exact ⟨fun h => h.perm hp, fun h => h.perm hp.symm⟩
theorem CellAt.to2 {w0 : World} {F F' : List Atom} {b o : Nat} {v : Value} (h : CellAt w0 F b o v) (hs : ∀ w, Holds w0 F' w → Holds w0 F w) : CellAt w0 F' b o v := fun w hw => h w (hs w hw)
theorem sat_at {K : List ByteArray} {j : Nat} (h : j < K.length) : K[j]? = some (K.getD j ⟨#[]⟩) := by simp [h]
set_option maxHeartbeats 4000000 in
theorem seq_s (w0 : World) (F : List Atom) {X : Type} (Hx : X → List Atom) (I : Nat → X → Prop) (Stop : List Atom → Prop) (l bm sb : Nat) (xs : List Nd) (hV : VSt xs) (hb : xs.length ≤ 1000000) (x0 : X) (h0 : I 0 x0)
    (hc : CellAt w0 (Hx x0 ++ F) bm 0 (.pointer (some ⟨sb, 0, none⟩))) (hf : CellAt w0 (Hx x0 ++ F) sb 2 (.pointer (fstP xs none)))
    (hseg : ∀ (j : Nat) (x : Nd) (l2 : List Nd) (o : Nat) (v : Value), xs.drop j = x :: l2 → (ndC x (lstP (xs.take j) none) (fstP l2 none))[o]? = some v → CellAt w0 (Hx x0 ++ F) x.b o v)
    (hY : ∀ (i : Nat) (x : X) (T : List Atom), i < xs.length → I i x → (∀ w, Holds w0 T w → Holds w0 F w) → RoundK Tryd.prog l [.int .i64 ((xs.map Nd.k).getD i 0), .string ((xs.map fun x : Nd => vstr x.v).getD i ⟨#[]⟩)] w0 (Hx x ++ T) fun v F2 => ∃ q, v = .bool q ∧ (q = true → ∃ x', I (i + 1) x' ∧ ∀ w, Holds w0 F2 w → Holds w0 (Hx x' ++ T) w) ∧ (q = false → ∃ F3, Stop F3 ∧ ∀ w, Holds w0 F2 w → Holds w0 (F3 ++ T) w)) :
    CallK Tryd.prog 58 [.func (.yield l) #[] #[], .pointer (some ⟨bm, 0, none⟩)] w0 (Hx x0 ++ F) (Gives w0 fun v F2 => (∃ x, I xs.length x ∧ F2 = Hx x ++ F) ∨ ∃ F3, Stop F3 ∧ F2 = F3 ++ F) := by
  refine c_enter Tryd.func58 rfl rfl rfl ?_
  refine g_seq ?_
  refine g_seq ?_
  refine g_region ?_
  refine l_loadc (v := .pointer (some ⟨sb, 0, none⟩)) rfl Tryd.isAgg42 rfl hc ?_
  refine l_eqpn rfl Tryd.underlying42 rfl rfl ?_
  refine l_nil ?_
  refine g_cond_f rfl ?_
  refine g_skip ?_
  refine g_seq ?_
  refine g_region ?_
  refine l_assign rfl rfl ?_
  refine l_nil ?_
  refine g_seq ?_
  refine g_region ?_
  refine l_assign rfl rfl ?_
  refine l_nil ?_
  refine g_seq ?_
  refine g_seq ?_
  refine g_region ?_
  refine l_loadc (v := .pointer (some ⟨sb, 0, none⟩)) rfl Tryd.isAgg42 rfl hc ?_
  refine l_nilCheck rfl rfl ?_
  refine l_fieldAddr rfl fa_79_2 rfl ?_
  refine l_loadc (v := .pointer (fstP xs none)) rfl Tryd.isAgg77 rfl hf ?_
  refine l_assign rfl rfl ?_
  refine l_nil ?_
  refine g_block ?_
  refine g_own_nil 9 1 ?_
  refine g_own_nil 3 1 ?_
  refine g_loopk (X := Nat × Option Addr × Nat × Option Addr × Nat) [(0, _)] (.cons rfl (.nil)) (fun z => z.1 ≤ xs.length) (fun z => xs.length - z.1) (fun z => [(3, .slice z.2.1 z.1 z.2.2.1), (4, .slice z.2.2.2.1 z.1 z.2.2.2.2), (5, .pointer (fstP (xs.drop z.1) none))]) (fun z => Own 3 1 (.slice z.2.1 z.1 z.2.2.1) z.1 (ints .i64 ((xs.take z.1).map Nd.k)) :: Own 9 1 (.slice z.2.2.2.1 z.1 z.2.2.2.2) z.1 (strs ((xs.take z.1).map fun x : Nd => vstr x.v)) :: (Hx x0 ++ F)) ((0, none, 0, none, 0)) (Nat.zero_le _) (.cons rfl (.cons rfl (.cons rfl .nil))) (fun w hw => hw) ?_
  rintro ⟨j, a, c, a2, c2⟩ j1 ih
  dsimp only [List.cons_append, List.nil_append] at ih ⊢
  simp only at j1
  refine g_seq ?_
  refine g_seq ?_
  refine g_region ?_
  refine l_move rfl rfl ?_
  refine l_nepn rfl Tryd.underlying77 rfl rfl ?_
  refine l_nil ?_
  refine g_cond rfl ?_ ?_
  · intro hbr
    have hb15 := hbr
    refine g_skip ?_
    refine g_seq ?_
    refine g_block ?_
    refine g_seq ?_
    refine g_region ?_
    obtain ⟨x, l2, hd⟩ := fst_some hb15
    obtain ⟨hd1, hd2, hd3, hd4, hd5⟩ := drop_cons hd
    rw [hd]
    refine l_move rfl rfl ?_
    refine l_move rfl rfl ?_
    refine l_nilCheck rfl rfl ?_
    refine l_fieldAddr rfl fa_106_0 rfl ?_
    refine l_loadc (v := .int .i64 x.k) rfl Tryd.isAgg3 rfl (CellAt.to2 (hseg j x l2 0 _ hd rfl) (fun w hw => SPI.holds hw)) ?_
    refine l_frontv (.slice a j c) ?_
    refine l_buildSlice rfl Tryd.underlying109 Tryd.sizeOf3 Tryd.zeroValue3 rfl rfl rfl rfl rfl rfl ?_; intro b25
    refine l_does rfl (does_apps 1 (by_ := 8) (kd := .i64) (V := (xs.take j).map Nd.k) (W := [x.k]) (m := j) (m2 := 1) (m3 := j + 1) (V3 := (xs.take (j + 1)).map Nd.k) Tryd.underlying109 Tryd.type3 rfl rfl rfl rfl rfl rfl rfl ⟨rfl, .inl ⟨_, _, _, rfl, .own (mem_getO 0 rfl)⟩⟩ (by omega) (by simp only [maxLen]; omega) rfl (by rw [hd5]; simp) (fun _ _ => rfl)) ?_
    rintro _ _ ⟨a26, c26, ha26, hn26, rfl, rfl⟩
    refine l_assign rfl rfl ?_
    refine l_nil ?_
    refine g_region ?_
    refine l_move rfl rfl ?_
    refine l_move rfl rfl ?_
    refine l_nilCheck rfl rfl ?_
    refine l_fieldAddr rfl fa_106_1 rfl ?_
    refine l_loadc (v := .string (vstr x.v)) rfl Tryd.isAgg9 rfl (CellAt.to2 (hseg j x l2 1 _ hd (congrArg some (hV x (List.mem_of_getElem? hd4)))) (fun w hw => SPI.holds hw)) ?_
    skip
    refine l_buildSlice rfl Tryd.underlying56 Tryd.sizeOf9 Tryd.zeroValue9 rfl rfl rfl rfl rfl rfl ?_; intro b32
    refine l_frontv (.slice a2 j c2) ?_
    refine l_append 0 (sz := 1) (by_ := 16) (m2 := 1) (news := [.string (vstr x.v)]) rfl Tryd.underlying56 Tryd.type9 rfl rfl rfl rfl rfl rfl rfl rfl ⟨rfl, .inl ⟨_, _, _, rfl, .own (mem_getO 1 rfl)⟩⟩ rfl (by omega) (by simp only [maxLen]; omega) (fun _ => rfl) ?_; intro v33 hv33
    rw [strs_snoc, show ((xs.take j).map fun x : Nd => vstr x.v) ++ [vstr x.v] = ((xs.take (j + 1)).map fun x : Nd => vstr x.v) by rw [hd5]; simp]
    refine l_fact (own_cases (mem_getO 0 rfl)) ?_
    rintro ⟨_, _, hw33⟩
    obtain ⟨a33, c33, rfl, _⟩ := own_shape hw33
    clear hw33
    refine l_assign rfl rfl ?_
    refine l_nil ?_
    refine g_inBlock ?_
    refine g_region ?_
    refine l_move rfl rfl ?_
    refine l_nilCheck rfl rfl ?_
    refine l_fieldAddr rfl fa_106_3 rfl ?_
    refine l_loadc (v := .pointer (fstP (xs.drop (j + 1)) none)) rfl Tryd.isAgg77 rfl (CellAt.to2 (hseg j x l2 3 _ hd (by rw [hd1]; rfl)) (fun w hw => SPI.holds hw)) ?_
    refine l_assign rfl rfl ?_
    refine l_nil ?_
    exact g_againi (ih (j + 1, a26, c26, a33, c33) (by simp only; omega) (by simp only; omega)) (.cons rfl (.cons rfl (.cons rfl (.cons rfl (.nil)))))
  intro hbr
  have hb15 := hbr
  refine g_exit rfl ?_
  have hj := List.drop_eq_nil_iff.1 (fst_none hb15)
  obtain rfl : j = xs.length := by omega
  rw [List.take_length]
  refine g_seq ?_
  refine g_region ?_
  refine l_move rfl rfl ?_
  refine l_len rfl Tryd.underlying109 rfl ?_
  refine l_move rfl rfl ?_
  refine l_nil ?_
  refine g_block ?_
  refine g_loopk (X := Int × X) [(0, _), (4, _), (34, _), (35, _)] (.cons rfl (.cons rfl (.cons rfl (.cons rfl (.nil))))) (fun z => 0 ≤ z.1 ∧ z.1 ≤ xs.length ∧ I z.1.toNat z.2) (fun z => ((xs.length : Int) - z.1).toNat) (fun z => [(36, .int .i64 z.1)]) (fun z => Own 3 1 (.slice a xs.length c) xs.length (ints .i64 (xs.map Nd.k)) :: Own 9 1 (.slice a2 xs.length c2) xs.length (strs (xs.map fun x : Nd => vstr x.v)) :: (Hx z.2 ++ F)) ((0, x0)) (⟨by simp only; omega, by simp only; omega, h0⟩) (.cons rfl .nil) (fun w hw => SPI.holds hw) ?_
  rintro ⟨i, x⟩ ⟨i0, i1, hI⟩ ihk
  dsimp only [List.cons_append, List.nil_append] at ihk ⊢
  simp only at i0 i1 hI
  refine g_seq ?_
  refine g_region ?_
  refine l_lss rfl rfl rfl ?_
  refine l_nil ?_
  refine g_seq ?_
  refine g_cond rfl ?_ ?_
  · intro hbr
    have hbr := of_decide_eq_true hbr
    refine g_skip ?_
    refine g_seq ?_
    refine g_block ?_
    refine g_seq ?_
    refine g_region ?_
    refine l_move rfl rfl ?_
    refine l_fact (own_cases (show Own 3 1 (.slice a xs.length c) xs.length (ints .i64 (xs.map Nd.k)) ∈ _ from (by first | exact mem_getO 0 rfl | exact mem_getO 1 rfl))) ?_
    rintro ⟨_, _, hv | ⟨gk, c9, hv, _⟩⟩
    · exact absurd hv.2 (by omega)
    obtain ⟨rfl, _, rfl⟩ := Value.slice.inj hv
    clear hv
    refine l_ixs rfl Tryd.underlying109 Tryd.sizeOf3 rfl rfl (by omega) (by omega) ?_
    refine l_loadc (v := .int .i64 ((xs.map Nd.k).getD i.toNat 0)) rfl Tryd.isAgg3 rfl (word_at (by first | exact mem_getO 0 rfl | exact mem_getO 1 rfl) (by rw [List.length_map]; omega)) ?_
    refine l_assign rfl rfl ?_
    refine l_assign rfl rfl ?_
    refine l_nil ?_
    refine g_seq ?_
    refine g_region ?_
    refine l_move rfl rfl ?_
    refine l_move rfl rfl ?_
    refine l_move rfl rfl ?_
    refine l_move rfl rfl ?_
    refine l_fact (own_cases (show Own 9 1 (.slice a2 xs.length c2) xs.length (strs (xs.map fun x : Nd => vstr x.v)) ∈ _ from (by first | exact mem_getO 0 rfl | exact mem_getO 1 rfl))) ?_
    rintro ⟨_, _, hv | ⟨gv, c9, hv, _⟩⟩
    · exact absurd hv.2 (by omega)
    obtain ⟨rfl, _, rfl⟩ := Value.slice.inj hv
    clear hv
    refine l_ixs rfl Tryd.underlying56 Tryd.sizeOf9 rfl rfl (by omega) (by omega) ?_
    refine l_loadc (v := .string ((xs.map fun x : Nd => vstr x.v).getD i.toNat ⟨#[]⟩)) rfl Tryd.isAgg9 rfl (str_cell (K := xs.map fun x : Nd => vstr x.v) (sat_at (by rw [List.length_map]; omega)) rfl) ?_
    refine l_yield rfl rfl rfl (RoundK.heap (hY i.toNat x (_ :: _ :: F) (by omega) hI (fun w hw => hw.tail.tail)) (fun w hw => holds_mid.1 hw)) ?_
    rintro _ F3 ⟨q, rfl, hq1, hq2⟩
    refine l_not rfl rfl ?_
    refine l_nil ?_
    refine g_cond rfl ?_ ?_
    · intro hbr
      have hb48 := hbr
      refine g_ret Tryd.func58 rfl .nil ?_
      (first | (obtain ⟨F4, hS4, hF4⟩ := hq2 (by simpa using hb48); exact ⟨_, _, rfl, .inr ⟨F4, hS4, rfl⟩, fun w hw => (holds_mid.2 (hF4 w hw)).tail.tail⟩) | exact ⟨_, _, rfl, .inl ⟨x, hI, rfl⟩, fun w hw => hw.tail.tail⟩)
    intro hbr
    have hb48 := hbr
    refine g_skip ?_
    refine g_inBlock ?_
    refine g_region ?_
    first | refine l_add rfl rfl rfl (w_i64 (by omega) (by omega)) ?_ | refine l_addw rfl rfl rfl ?_
    refine l_move rfl rfl ?_
    refine l_nil ?_
    (obtain ⟨x2, hI2, hF3⟩ := hq1 (by simpa using hb48); refine g_heap (fun w hw => holds_mid.2 (hF3 w hw)) ?_; exact g_againi (ihk (i + 1, x2) ⟨by simp only; omega, by simp only; omega, by rw [show ((i + 1, x2) : Int × X).1.toNat = i.toNat + 1 by simp only; omega]; exact hI2⟩ (by simp only; omega)) (.cons rfl (.cons rfl (.cons rfl (.cons rfl (.cons rfl (.nil)))))))
  intro hbr
  have hbr := of_decide_eq_false hbr
  refine g_exit rfl ?_
  obtain rfl : i = xs.length := by omega
  rw [Int.toNat_natCast] at hI
  refine g_end Tryd.func58 rfl .nil ?_
  (first | (obtain ⟨F4, hS4, hF4⟩ := hq2 (by simpa using hb48); exact ⟨_, _, rfl, .inr ⟨F4, hS4, rfl⟩, fun w hw => (holds_mid.2 (hF4 w hw)).tail.tail⟩) | exact ⟨_, _, rfl, .inl ⟨x, hI, rfl⟩, fun w hw => hw.tail.tail⟩)
end Go.Proofs.YtjfibfbknfeflaaDoor.Fw
