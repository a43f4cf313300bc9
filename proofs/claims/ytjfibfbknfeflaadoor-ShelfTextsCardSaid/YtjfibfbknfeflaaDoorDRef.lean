import Derived.Test.YtjfibfbknfeflaaDoorDGen
namespace Go.Proofs.YtjfibfbknfeflaaDoor.Fw
open Go Go.Proofs
set_option linter.unusedVariables false
set_option linter.unusedSimpArgs false
set_option maxRecDepth 10000
theorem fa_58_1 (a : Addr) (w : World) : (Instr.fieldAt 58 (.pointer (some a)) 1).run Tryd.prog w = .ok (.pointer (some (a.add 1))) w := by
  simp [Instr.fieldAt, Tryd.runUnderlying58, Instr.sureAddr, fieldPlace, Tryd.sizeOf56, Sem.run_bind, Sem.run_pure]
theorem fa_58_2 (a : Addr) (w : World) : (Instr.fieldAt 58 (.pointer (some a)) 2).run Tryd.prog w = .ok (.pointer (some (a.add 2))) w := by
  simp [Instr.fieldAt, Tryd.runUnderlying58, Instr.sureAddr, fieldPlace, Tryd.sizeOf56, Sem.run_bind, Sem.run_pure]
theorem fa_58_0 (a : Addr) (w : World) : (Instr.fieldAt 58 (.pointer (some a)) 0).run Tryd.prog w = .ok (.pointer (some (a.add 0))) w := by
  simp [Instr.fieldAt, Tryd.runUnderlying58, Instr.sureAddr, fieldPlace, Tryd.sizeOf3, Sem.run_bind, Sem.run_pure]
theorem bd_58_0 (a0_0 : Int) (w : World) : (Instr.build 58 #[(0, .int .i64 a0_0)]).run Tryd.prog w = .ok (.agg #[.int .i64 a0_0, .slice none 0 0, .slice none 0 0]) w := by kernel_rfl
abbrev k1 (L : List (ByteArray × ByteArray)) : List ByteArray := L.map (·.1)
abbrev k2 (L : List (ByteArray × ByteArray)) : List ByteArray := L.map (·.2)
def PL (L : List (ByteArray × ByteArray)) (k : ByteArray) (r : Int) : Prop := (r = -1 ∧ hasG L k = false) ∨ ∃ j : Nat, r = j ∧ ∃ p, L[j]? = some p ∧ p.1 = k
theorem get_at {β : Type} {L : List β} {j : Nat} (h : j < L.length) : ∃ p, L[j]? = some p := ⟨L[j], by simp [h]⟩
theorem k1_at {κ β : Type} {L : List (κ × β)} {j : Nat} {p : κ × β} (h : L[j]? = some p) : (L.map (·.1))[j]? = some p.1 ∧ (L.map (·.2))[j]? = some p.2 := by simp [h]
theorem no_key {L : List (ByteArray × ByteArray)} {k : ByteArray} (h : ∀ (j : Nat) p, L[j]? = some p → p.1 ≠ k) : hasG L k = false := hasG_none fun p hp => by
  obtain ⟨j, hj, e⟩ := List.mem_iff_getElem.1 hp
  exact h j p (by rw [← e]; simp [hj])
theorem er_same {β : Type} {L : List β} {j : Nat} : (L.take (j + 1)).eraseIdx j = (L.take j).eraseIdx j := by
  rw [List.eraseIdx_eq_take_drop_succ, List.eraseIdx_eq_take_drop_succ]
  simp [List.take_take, List.drop_take]
theorem er_step {β : Type} {L : List β} {i j : Nat} {p : β} (h : L[i]? = some p) (hij : i ≠ j) : (L.take (i + 1)).eraseIdx j = (L.take i).eraseIdx j ++ [p] := by
  obtain ⟨hi, rfl⟩ := List.getElem?_eq_some_iff.1 h
  rw [List.take_add_one, List.getElem?_eq_getElem hi]
  rcases Nat.lt_or_ge j (L.take i).length with h1 | h1
  · rw [List.eraseIdx_append_of_lt_length h1]; rfl
  · rw [List.eraseIdx_append_of_length_le h1, List.eraseIdx_of_length_le h1]
    have : (L.take i).length = i := by rw [List.length_take]; omega
    rw [List.eraseIdx_of_length_le]
    · rfl
    · show 1 ≤ _
      omega
theorem strs_snoc (K : List ByteArray) (x : ByteArray) : strs K ++ [.string x] = strs (K ++ [x]) := by simp [strs]
theorem own_shape {v : Value} {m : Nat} (h : (v = .slice none 0 0 ∧ m = 0) ∨ ∃ g cap, v = .slice (some ⟨g, 0, none⟩) m cap ∧ m ≤ cap) : ∃ a c, v = .slice a m c ∧ (m = 0 ∨ ∃ g, a = some ⟨g, 0, none⟩) := by
  rcases h with ⟨rfl, rfl⟩ | ⟨g, c, rfl, _⟩
  · exact ⟨none, 0, rfl, .inl rfl⟩
  · exact ⟨_, c, rfl, .inr ⟨g, rfl⟩⟩
theorem c_own_nil {P : Program} {f : FuncId} {args : List Value} {w0 : World} {F : List Atom} {K : Post} (E : Nat) (h : CallK P f args w0 (Own E 1 (.slice none 0 0) 0 [] :: F) K) : CallK P f args w0 F K := CallK.heap h (fun w hw => hw.own_nil E 1)
theorem rplace_ok (w0 : World) (F : List Atom) (rb : Nat) (room : Int) (L : List (ByteArray × ByteArray)) (ka va : Option Addr) (kc vc : Nat) (hk : L.length = 0 ∨ ∃ g, ka = some ⟨g, 0, none⟩) (hv : L.length = 0 ∨ ∃ g, va = some ⟨g, 0, none⟩) (hl : L.length ≤ 4096) (k : ByteArray) :
    CallK Tryd.prog 52 [.pointer (some ⟨rb, 0, none⟩), .string k] w0 (Blk rb (.cells [Value.int .i64 room, .slice ka L.length kc, .slice va L.length vc].toArray 58 (0, 0)) :: Own 9 1 (.slice ka L.length kc) L.length (strs (k1 L)) :: Own 9 1 (.slice va L.length vc) L.length (strs (k2 L)) :: F) (Gives w0 fun v F2 => (∃ r : Int, v = .int .i64 r ∧ PL L k r) ∧ F2 = Blk rb (.cells [Value.int .i64 room, .slice ka L.length kc, .slice va L.length vc].toArray 58 (0, 0)) :: Own 9 1 (.slice ka L.length kc) L.length (strs (k1 L)) :: Own 9 1 (.slice va L.length vc) L.length (strs (k2 L)) :: F) := by
  refine c_enter Tryd.func52 rfl rfl rfl ?_
  refine g_seq ?_
  refine g_region ?_
  refine l_assign rfl rfl ?_
  refine l_nil ?_
  refine g_seq ?_
  refine g_seq ?_
  refine g_region ?_
  refine l_assign rfl rfl ?_
  refine l_nil ?_
  refine g_block ?_
  refine g_loopc (X := Int) [(0, _), (1, _)] (.cons rfl (.cons rfl (.nil))) (fun i => 0 ≤ i ∧ i ≤ L.length ∧ ∀ (j : Nat) p, j < i → L[j]? = some p → p.1 ≠ k) (fun i => ((L.length : Int) - i).toNat) (fun i => [(5, .int .i64 i)]) (0) (⟨by omega, by omega, fun j p hj => by omega⟩) (.cons rfl .nil) ?_
  rintro i ⟨i0, i1, hne⟩ ih
  dsimp only [List.cons_append, List.nil_append] at ih ⊢
  refine g_seq ?_
  refine g_seq ?_
  refine g_region ?_
  refine l_move rfl rfl ?_
  refine l_move rfl rfl ?_
  refine l_nilCheck rfl rfl ?_
  refine l_fieldAddr rfl fa_58_1 rfl ?_
  refine l_ld rfl Tryd.isAgg56 rfl rfl ?_
  refine l_len rfl Tryd.underlying56 rfl ?_
  refine l_lss rfl rfl rfl ?_
  refine l_nil ?_
  refine g_cond rfl ?_ ?_
  · intro hbr
    have hbr := of_decide_eq_true hbr
    refine g_skip ?_
    refine g_seq ?_
    refine g_block ?_
    refine g_seq ?_
    refine g_region ?_
    refine l_move rfl rfl ?_
    refine l_nilCheck rfl rfl ?_
    refine l_fieldAddr rfl fa_58_1 rfl ?_
    refine l_ld rfl Tryd.isAgg56 rfl rfl ?_
    refine l_move rfl rfl ?_
    obtain ⟨gk, rfl⟩ := hk.resolve_left (by omega)
    obtain ⟨p, hp⟩ := get_at (L := L) (j := i.toNat) (by omega)
    obtain ⟨hp1, hp2⟩ := k1_at hp
    refine l_ixs rfl Tryd.underlying56 Tryd.sizeOf9 rfl rfl (by omega) (by omega) ?_
    refine l_loadc (v := .string p.1) rfl Tryd.isAgg9 rfl (str_cell hp1 (by omega)) ?_
    refine l_move rfl rfl ?_
    refine l_eqls rfl rfl rfl ?_
    rw [bytes_eq]
    refine l_nil ?_
    refine g_cond rfl ?_ ?_
    · intro hbr
      have hbr := of_decide_eq_true hbr
      refine g_seq ?_
      refine g_region ?_
      refine l_move rfl rfl ?_
      refine l_assign rfl rfl ?_
      refine l_nil ?_
      refine g_ret Tryd.func52 rfl (.tmp rfl .nil) ?_
      (first | exact Gives.mki ⟨⟨i, rfl, .inr ⟨i.toNat, by omega, p, hp, hbr⟩⟩, rfl⟩ | exact Gives.mki ⟨⟨-1, rfl, .inl ⟨rfl, no_key fun j p hj => hne j p (by have := (List.getElem?_eq_some_iff.1 hj).1; omega) hj⟩⟩, rfl⟩)
    intro hbr
    have hbr := of_decide_eq_false hbr
    refine g_skip ?_
    refine g_inBlock ?_
    refine g_region ?_
    refine l_move rfl rfl ?_
    first | refine l_add rfl rfl rfl (w_i64 (by omega) (by omega)) ?_ | refine l_addw rfl rfl rfl ?_
    refine l_assign rfl rfl ?_
    refine l_nil ?_
    exact g_againi (ih (i + 1) ⟨by omega, by omega, fun j q hj hq => by rcases (show (j : Int) < i ∨ j = i.toNat by omega) with h | rfl; (exact hne j q h hq); (rw [hp] at hq; cases hq; exact hbr)⟩ (by omega)) (.cons rfl (.cons rfl (.cons rfl (.nil))))
  intro hbr
  have hbr := of_decide_eq_false hbr
  refine g_exit rfl ?_
  refine g_seq ?_
  refine g_region ?_
  refine l_assign rfl rfl ?_
  refine l_nil ?_
  refine g_ret Tryd.func52 rfl (.tmp rfl .nil) ?_
  (first | exact Gives.mki ⟨⟨i, rfl, .inr ⟨i.toNat, by omega, p, hp, hbr⟩⟩, rfl⟩ | exact Gives.mki ⟨⟨-1, rfl, .inl ⟨rfl, no_key fun j p hj => hne j p (by have := (List.getElem?_eq_some_iff.1 hj).1; omega) hj⟩⟩, rfl⟩)
set_option maxHeartbeats 2000000 in
theorem rwithout_ok (w0 : World) (F : List Atom) (rb : Nat) (room : Int) (L : List (ByteArray × ByteArray)) (ka va : Option Addr) (kc vc : Nat) (hk : L.length = 0 ∨ ∃ g, ka = some ⟨g, 0, none⟩) (hv : L.length = 0 ∨ ∃ g, va = some ⟨g, 0, none⟩) (hl : L.length ≤ 4096) (j : Nat) (hj : j < L.length) :
    CallK Tryd.prog 53 [.pointer (some ⟨rb, 0, none⟩), .int .i64 (j : Int)] w0 (Blk rb (.cells [Value.int .i64 room, .slice ka L.length kc, .slice va L.length vc].toArray 58 (0, 0)) :: Own 9 1 (.slice ka L.length kc) L.length (strs (k1 L)) :: Own 9 1 (.slice va L.length vc) L.length (strs (k2 L)) :: F) (Gives w0 fun v F2 => ∃ ka1 va1 kc1 vc1, ((L.eraseIdx j).length = 0 ∨ ∃ g, ka1 = some ⟨g, 0, none⟩) ∧ ((L.eraseIdx j).length = 0 ∨ ∃ g, va1 = some ⟨g, 0, none⟩) ∧ F2 = Blk rb (.cells [Value.int .i64 room, .slice ka1 (L.eraseIdx j).length kc1, .slice va1 (L.eraseIdx j).length vc1].toArray 58 (0, 0)) :: Own 9 1 (.slice ka1 (L.eraseIdx j).length kc1) (L.eraseIdx j).length (strs (k1 (L.eraseIdx j))) :: Own 9 1 (.slice va1 (L.eraseIdx j).length vc1) (L.eraseIdx j).length (strs (k2 (L.eraseIdx j))) :: F) := by
  refine c_enter Tryd.func53 rfl rfl rfl ?_
  refine g_seq ?_
  refine g_region ?_
  refine l_assign rfl rfl ?_
  refine l_assign rfl rfl ?_
  refine l_nil ?_
  refine g_seq ?_
  refine g_seq ?_
  refine g_region ?_
  refine l_assign rfl rfl ?_
  refine l_nil ?_
  refine g_block ?_
  refine g_own_nil 9 1 ?_
  refine g_own_nil 9 1 ?_
  refine g_loopk (X := Int × Option Addr × Nat × Option Addr × Nat) [(0, _), (1, _)] (.cons rfl (.cons rfl (.nil))) (fun z => (0 ≤ z.1 ∧ z.1 ≤ L.length) ∧ (((L.take (z.1).toNat).eraseIdx j).length = 0 ∨ ∃ g, z.2.1 = some ⟨g, 0, none⟩) ∧ (((L.take (z.1).toNat).eraseIdx j).length = 0 ∨ ∃ g, z.2.2.2.1 = some ⟨g, 0, none⟩)) (fun z => ((L.length : Int) - z.1).toNat) (fun z => [(4, .slice z.2.1 ((L.take (z.1).toNat).eraseIdx j).length z.2.2.1), (5, .slice z.2.2.2.1 ((L.take (z.1).toNat).eraseIdx j).length z.2.2.2.2), (6, .int .i64 z.1)]) (fun z => Own 9 1 (.slice z.2.1 ((L.take (z.1).toNat).eraseIdx j).length z.2.2.1) ((L.take (z.1).toNat).eraseIdx j).length (strs (k1 ((L.take (z.1).toNat).eraseIdx j))) :: Own 9 1 (.slice z.2.2.2.1 ((L.take (z.1).toNat).eraseIdx j).length z.2.2.2.2) ((L.take (z.1).toNat).eraseIdx j).length (strs (k2 ((L.take (z.1).toNat).eraseIdx j))) :: Blk rb (.cells [Value.int .i64 room, .slice ka L.length kc, .slice va L.length vc].toArray 58 (0, 0)) :: Own 9 1 (.slice ka L.length kc) L.length (strs (k1 L)) :: Own 9 1 (.slice va L.length vc) L.length (strs (k2 L)) :: F) ((0, none, 0, none, 0)) (⟨⟨by simp only; omega, by simp only; omega⟩, .inl rfl, .inl rfl⟩) (.cons rfl (.cons rfl (.cons rfl .nil))) (fun w hw => hw) ?_
  rintro ⟨i, a1, c1, a2, c2⟩ ⟨⟨i0, i1⟩, h1, h2⟩ ih
  dsimp only [List.cons_append, List.nil_append] at ih ⊢
  simp only at i0 i1 h1 h2
  have hml : ((L.take (i).toNat).eraseIdx j).length ≤ L.length := Nat.le_trans (List.length_eraseIdx_le ..) (by rw [List.length_take]; omega)
  refine g_seq ?_
  refine g_seq ?_
  refine g_region ?_
  refine l_move rfl rfl ?_
  refine l_move rfl rfl ?_
  refine l_nilCheck rfl rfl ?_
  refine l_fieldAddr rfl fa_58_1 rfl ?_
  refine l_ld rfl Tryd.isAgg56 rfl rfl ?_
  refine l_len rfl Tryd.underlying56 rfl ?_
  refine l_lss rfl rfl rfl ?_
  refine l_nil ?_
  refine g_cond rfl ?_ ?_
  · intro hbr
    have hbr := of_decide_eq_true hbr
    refine g_skip ?_
    refine g_seq ?_
    refine g_block ?_
    refine g_seq ?_
    refine g_region ?_
    refine l_move rfl rfl ?_
    refine l_move rfl rfl ?_
    refine l_neq rfl rfl rfl ?_
    refine l_nil ?_
    refine g_cond rfl ?_ ?_
    · intro hbr
      have hbr := of_decide_eq_true hbr
      refine g_seq ?_
      refine g_region ?_
      obtain ⟨p, hp⟩ := get_at (L := L) (j := i.toNat) (by omega)
      obtain ⟨hp1, hp2⟩ := k1_at hp
      have hM := er_step (j := j) hp (by omega)
      rw [← show (i + 1).toNat = i.toNat + 1 by omega] at hM
      have hMl : ((L.take (i).toNat).eraseIdx j).length + 1 = ((L.take (i + 1).toNat).eraseIdx j).length := by rw [hM]; simp
      have hM1 : (k1 ((L.take (i).toNat).eraseIdx j)) ++ [p.1] = (k1 ((L.take (i + 1).toNat).eraseIdx j)) := by rw [hM]; simp
      have hM2 : (k2 ((L.take (i).toNat).eraseIdx j)) ++ [p.2] = (k2 ((L.take (i + 1).toNat).eraseIdx j)) := by rw [hM]; simp
      obtain ⟨gk, rfl⟩ := hk.resolve_left (by omega)
      obtain ⟨gv, rfl⟩ := hv.resolve_left (by omega)
      refine l_move rfl rfl ?_
      refine l_move rfl rfl ?_
      refine l_nilCheck rfl rfl ?_
      refine l_fieldAddr rfl fa_58_1 rfl ?_
      refine l_ld rfl Tryd.isAgg56 rfl rfl ?_
      refine l_move rfl rfl ?_
      refine l_ixs rfl Tryd.underlying56 Tryd.sizeOf9 rfl rfl (by omega) (by omega) ?_
      refine l_loadc (v := .string p.1) rfl Tryd.isAgg9 rfl (str_cell hp1 (by omega)) ?_
      refine l_buildSlice rfl Tryd.underlying56 Tryd.sizeOf9 Tryd.zeroValue9 rfl rfl rfl rfl rfl rfl ?_; intro b27
      refine l_frontv (.slice a1 ((L.take (i).toNat).eraseIdx j).length c1) ?_
      refine l_append 0 (sz := 1) (by_ := 16) (m2 := 1) (news := [.string p.1]) rfl Tryd.underlying56 Tryd.type9 rfl rfl rfl rfl rfl rfl rfl rfl ⟨rfl, .inl ⟨_, _, _, rfl, .own (mem_getO 1 rfl)⟩⟩ rfl (by omega) (by simp only [maxLen]; omega) (fun _ => rfl) ?_; intro v28 hv28
      rw [strs_snoc, hM1, hMl]
      refine l_fact (own_cases (mem_getO 0 rfl)) ?_
      rintro ⟨_, _, hw28⟩
      obtain ⟨a28, c28, rfl, hs28⟩ := own_shape hw28
      clear hw28
      refine l_assign rfl rfl ?_
      refine l_nil ?_
      refine g_region ?_
      refine l_move rfl rfl ?_
      refine l_move rfl rfl ?_
      refine l_nilCheck rfl rfl ?_
      refine l_fieldAddr rfl fa_58_2 rfl ?_
      refine l_ld rfl Tryd.isAgg56 rfl rfl ?_
      refine l_move rfl rfl ?_
      refine l_ixs rfl Tryd.underlying56 Tryd.sizeOf9 rfl rfl (by omega) (by omega) ?_
      refine l_loadc (v := .string p.2) rfl Tryd.isAgg9 rfl (str_cell hp2 (by omega)) ?_
      refine l_buildSlice rfl Tryd.underlying56 Tryd.sizeOf9 Tryd.zeroValue9 rfl rfl rfl rfl rfl rfl ?_; intro b37
      refine l_frontv (.slice a2 ((L.take (i).toNat).eraseIdx j).length c2) ?_
      refine l_append 0 (sz := 1) (by_ := 16) (m2 := 1) (news := [.string p.2]) rfl Tryd.underlying56 Tryd.type9 rfl rfl rfl rfl rfl rfl rfl rfl ⟨rfl, .inl ⟨_, _, _, rfl, .own (mem_getO 1 rfl)⟩⟩ rfl (by omega) (by simp only [maxLen]; omega) (fun _ => rfl) ?_; intro v38 hv38
      rw [strs_snoc, hM2, hMl]
      refine l_fact (own_cases (mem_getO 0 rfl)) ?_
      rintro ⟨_, _, hw38⟩
      obtain ⟨a38, c38, rfl, hs38⟩ := own_shape hw38
      clear hw38
      refine l_assign rfl rfl ?_
      refine l_nil ?_
      refine g_inBlock ?_
      refine g_region ?_
      refine l_move rfl rfl ?_
      first | refine l_add rfl rfl rfl (w_i64 (by omega) (by omega)) ?_ | refine l_addw rfl rfl rfl ?_
      refine l_assign rfl rfl ?_
      refine l_nil ?_
      (first | exact g_againi (ih (i + 1, a28, c28, a38, c38) ⟨⟨by simp only; omega, by simp only; omega⟩, hs28, hs38⟩ (by simp only; omega)) (.cons rfl (.cons rfl (.cons rfl (.cons rfl (.cons rfl (.nil)))))) | (have hM : ((L.take (i + 1).toNat).eraseIdx j) = ((L.take (i).toNat).eraseIdx j) := (by rw [show (i + 1).toNat = j + 1 by omega, show i.toNat = j by omega]; exact er_same); rw [← hM] at h1 h2 ⊢; exact g_againi (ih (i + 1, a1, c1, a2, c2) ⟨⟨by simp only; omega, by simp only; omega⟩, h1, h2⟩ (by simp only; omega)) (.cons rfl (.cons rfl (.cons rfl (.cons rfl (.cons rfl (.nil))))))))
    intro hbr
    have hbr := of_decide_eq_false hbr
    refine g_skip ?_
    refine g_inBlock ?_
    refine g_region ?_
    refine l_move rfl rfl ?_
    first | refine l_add rfl rfl rfl (w_i64 (by omega) (by omega)) ?_ | refine l_addw rfl rfl rfl ?_
    refine l_assign rfl rfl ?_
    refine l_nil ?_
    (first | exact g_againi (ih (i + 1, a28, c28, a38, c38) ⟨⟨by simp only; omega, by simp only; omega⟩, hs28, hs38⟩ (by simp only; omega)) (.cons rfl (.cons rfl (.cons rfl (.cons rfl (.cons rfl (.nil)))))) | (have hM : ((L.take (i + 1).toNat).eraseIdx j) = ((L.take (i).toNat).eraseIdx j) := (by rw [show (i + 1).toNat = j + 1 by omega, show i.toNat = j by omega]; exact er_same); rw [← hM] at h1 h2 ⊢; exact g_againi (ih (i + 1, a1, c1, a2, c2) ⟨⟨by simp only; omega, by simp only; omega⟩, h1, h2⟩ (by simp only; omega)) (.cons rfl (.cons rfl (.cons rfl (.cons rfl (.cons rfl (.nil))))))))
  intro hbr
  have hbr := of_decide_eq_false hbr
  refine g_exit rfl ?_
  obtain rfl : i = (L.length : Int) := by omega
  rw [Int.toNat_natCast, List.take_length] at h1 h2 ⊢
  refine g_seq ?_
  refine g_region ?_
  refine l_move rfl rfl ?_
  refine l_move rfl rfl ?_
  refine l_nilCheck rfl rfl ?_
  refine l_fieldAddr rfl fa_58_1 rfl ?_
  refine l_st Tryd.sizeOf56 rfl rfl rfl rfl ?_
  refine l_nil ?_
  refine g_region ?_
  refine l_move rfl rfl ?_
  refine l_move rfl rfl ?_
  refine l_nilCheck rfl rfl ?_
  refine l_fieldAddr rfl fa_58_2 rfl ?_
  refine l_st Tryd.sizeOf56 rfl rfl rfl rfl ?_
  refine l_nil ?_
  refine g_end Tryd.func53 rfl .nil ?_
  exact Gives.mki ⟨a1, a2, c1, c2, h1, h2, rfl⟩
theorem rpeek_ok (w0 : World) (F : List Atom) (rb : Nat) (room : Int) (L : List (ByteArray × ByteArray)) (ka va : Option Addr) (kc vc : Nat) (hk : L.length = 0 ∨ ∃ g, ka = some ⟨g, 0, none⟩) (hv : L.length = 0 ∨ ∃ g, va = some ⟨g, 0, none⟩) (hl : L.length ≤ 4096) (hnd : (L.map (·.1)).Nodup) (k : ByteArray) :
    CallK Tryd.prog 30 [.pointer (some ⟨rb, 0, none⟩), .string k] w0 (Blk rb (.cells [Value.int .i64 room, .slice ka L.length kc, .slice va L.length vc].toArray 58 (0, 0)) :: Own 9 1 (.slice ka L.length kc) L.length (strs (k1 L)) :: Own 9 1 (.slice va L.length vc) L.length (strs (k2 L)) :: F) (Gives w0 fun v F2 => v = .tuple #[.string (valG ⟨#[]⟩ L k), .bool (hasG L k)] ∧ F2 = Blk rb (.cells [Value.int .i64 room, .slice ka L.length kc, .slice va L.length vc].toArray 58 (0, 0)) :: Own 9 1 (.slice ka L.length kc) L.length (strs (k1 L)) :: Own 9 1 (.slice va L.length vc) L.length (strs (k2 L)) :: F) := by
  refine c_enter Tryd.func30 rfl rfl rfl ?_
  refine g_seq ?_
  refine g_region ?_
  refine l_assign rfl rfl ?_
  refine l_assign rfl rfl ?_
  refine l_nil ?_
  refine g_seq ?_
  refine g_seq ?_
  refine g_region ?_
  refine l_move rfl rfl ?_
  refine l_eqpn rfl Tryd.underlying32 rfl rfl ?_
  refine l_move rfl rfl ?_
  refine l_guard_yes rfl rfl ?_
  refine l_move rfl rfl ?_
  refine l_guard_yes rfl rfl ?_
  refine l_move rfl rfl ?_
  refine l_guard_yes rfl rfl ?_
  refine l_call rfl Tryd.call52 rfl (rplace_ok _ _ rb room L ka va kc vc hk hv hl k) ?_; rintro _ _ ⟨⟨r1, rfl, hr1⟩, rfl⟩
  refine l_guard_yes rfl rfl ?_
  refine l_lss rfl rfl rfl ?_
  refine l_pick_f rfl rfl rfl ?_
  refine l_nil ?_
  refine g_cond rfl ?_ ?_
  · intro hbr
    have hbr := of_decide_eq_true hbr
    refine g_seq ?_
    refine g_region ?_
    refine l_assign rfl rfl ?_
    refine l_assign rfl rfl ?_
    refine l_nil ?_
    refine g_ret Tryd.func30 rfl (.tmp rfl (.tmp rfl .nil)) ?_
    (first | exact Gives.mki ⟨by rw [(hr1.resolve_right (fun ⟨j, h, _⟩ => by omega)).2, valG_none (hr1.resolve_right (fun ⟨j, h, _⟩ => by omega)).2]; rfl, rfl⟩ | exact Gives.mki ⟨by rw [hh, ← hik, (erase_del hnd hip).2.2]; rfl, rfl⟩)
  intro hbr
  have hbr := of_decide_eq_false hbr
  refine g_skip ?_
  refine g_seq ?_
  refine gp_start mo (by kernel_rfl) (by kernel_rfl) ?_
  obtain ⟨j, rfl, pj, hjp, hjk⟩ := hr1.resolve_left (fun h => by first | omega | (rw [h.2] at hh; cases hh))
  have hh : hasG L k = true := by have := (erase_del hnd hjp).2.1; rw [hjk] at this; exact this
  refine gp_quiet 0 rfl rfl rfl rfl rfl rfl (q_move rfl) ?_
  refine gp_quiet 1 rfl rfl rfl rfl rfl rfl (q_nilCheck rfl) ?_
  refine gp_quiet 2 rfl rfl rfl rfl rfl rfl (q_fieldAddr fa_58_2 rfl) ?_
  refine gp_quiet 3 rfl rfl rfl rfl rfl rfl (q_ld Tryd.isAgg56 rfl rfl) ?_
  refine gp_quiet 4 rfl rfl rfl rfl rfl rfl (q_move rfl) ?_
  refine gp_quiet 5 rfl rfl rfl rfl rfl rfl (q_move rfl) ?_
  refine gp_effa 6 [4, 5] [3, 2, 1, 0] rfl rfl rfl rfl rfl rfl rfl (does_call Tryd.call52 rfl (rplace_ok _ _ rb room L ka va kc vc hk hv hl k)) ?_
  rintro _ _ ⟨⟨r2, rfl, hr2⟩, rfl⟩
  obtain ⟨i, rfl, pi, hip, hik⟩ := hr2.resolve_left (fun h => by first | omega | (rw [h.2] at hh; cases hh))
  have hil := (List.getElem?_eq_some_iff.1 hip).1
  obtain ⟨gv, rfl⟩ := hv.resolve_left (by omega)
  refine ⟨?_, ?_⟩
  · refine .cons rfl rfl rfl rfl rfl (q_ld Tryd.isAgg56 rfl rfl) ?_
    refine .cons rfl rfl rfl rfl rfl (q_fieldAddr fa_58_2 rfl) ?_
    refine .cons rfl rfl rfl rfl rfl (q_nilCheck rfl) ?_
    refine .cons rfl rfl rfl rfl rfl (q_move rfl) ?_
    exact .nil
  refine gp_quiet 7 rfl rfl rfl rfl rfl rfl (q_ixs Tryd.underlying56 Tryd.sizeOf9 rfl rfl (by omega) (by omega)) ?_
  refine gp_quiet 8 rfl rfl rfl rfl rfl rfl (q_loadc (v := .string pi.2) Tryd.isAgg9 rfl (str_cell (k1_at hip).2 (by omega))) ?_
  refine gp_quiet 9 rfl rfl rfl rfl rfl rfl (q_assign rfl) ?_
  refine gp_quiet 10 rfl rfl rfl rfl rfl rfl (q_assign rfl) ?_
  refine gp_end rfl rfl ?_
  refine g_ret Tryd.func30 rfl (.tmp rfl (.tmp rfl .nil)) ?_
  (first | exact Gives.mki ⟨by rw [(hr1.resolve_right (fun ⟨j, h, _⟩ => by omega)).2, valG_none (hr1.resolve_right (fun ⟨j, h, _⟩ => by omega)).2]; rfl, rfl⟩ | exact Gives.mki ⟨by rw [hh, ← hik, (erase_del hnd hip).2.2]; rfl, rfl⟩)
set_option maxHeartbeats 2000000 in
theorem rput_has (w0 : World) (F : List Atom) (rb : Nat) (room : Int) (L : List (ByteArray × ByteArray)) (ka va : Option Addr) (kc vc : Nat) (hk : L.length = 0 ∨ ∃ g, ka = some ⟨g, 0, none⟩) (hv : L.length = 0 ∨ ∃ g, va = some ⟨g, 0, none⟩) (hl : L.length ≤ 4096) (hnd : (L.map (·.1)).Nodup) (k : ByteArray) (u : ByteArray) (hc : hasG L k = true) :
    CallK Tryd.prog 26 [.pointer (some ⟨rb, 0, none⟩), .string k, .string u] w0 (Blk rb (.cells [Value.int .i64 room, .slice ka L.length kc, .slice va L.length vc].toArray 58 (0, 0)) :: Own 9 1 (.slice ka L.length kc) L.length (strs (k1 L)) :: Own 9 1 (.slice va L.length vc) L.length (strs (k2 L)) :: F) (Gives w0 fun v F2 => ∃ ka1 va1 kc1 vc1, ((putG room L k u).length = 0 ∨ ∃ g, ka1 = some ⟨g, 0, none⟩) ∧ ((putG room L k u).length = 0 ∨ ∃ g, va1 = some ⟨g, 0, none⟩) ∧ v = .tuple #[.string ⟨#[]⟩, .bool false] ∧ F2 = Blk rb (.cells [Value.int .i64 room, .slice ka1 (putG room L k u).length kc1, .slice va1 (putG room L k u).length vc1].toArray 58 (0, 0)) :: Own 9 1 (.slice ka1 (putG room L k u).length kc1) (putG room L k u).length (strs (k1 (putG room L k u))) :: Own 9 1 (.slice va1 (putG room L k u).length vc1) (putG room L k u).length (strs (k2 (putG room L k u))) :: F) := by
  refine c_enter Tryd.func26 rfl rfl rfl ?_
  refine g_seq ?_
  refine g_region ?_
  refine l_assign rfl rfl ?_
  refine l_assign rfl rfl ?_
  refine l_nil ?_
  refine g_seq ?_
  refine g_seq ?_
  refine g_region ?_
  refine l_move rfl rfl ?_
  refine l_eqpn rfl Tryd.underlying32 rfl rfl ?_
  refine l_nil ?_
  refine g_cond_f rfl ?_
  refine g_skip ?_
  refine g_seq ?_
  refine g_region ?_
  refine l_assign rfl rfl ?_
  refine l_assign rfl rfl ?_
  refine l_nil ?_
  refine g_seq ?_
  refine g_seq ?_
  refine g_region ?_
  refine l_move rfl rfl ?_
  refine l_move rfl rfl ?_
  refine l_call rfl Tryd.call52 rfl (rplace_ok _ _ rb room L ka va kc vc hk hv hl k) ?_; rintro _ _ ⟨⟨r, rfl, hr1_⟩, rfl⟩
  obtain ⟨j, rfl, p, hp, hpk⟩ := hr1_.resolve_left (fun h => by rw [h.2] at hc; cases hc)
  have hjl := (List.getElem?_eq_some_iff.1 hp).1
  refine l_assign rfl rfl ?_
  refine l_nil ?_
  refine g_seq ?_
  refine g_region ?_
  refine l_move rfl rfl ?_
  refine l_geq rfl rfl rfl ?_
  refine l_nil ?_
  refine g_cond rfl ?_ ?_
  · intro hbr
    have hbr := of_decide_eq_true hbr
    refine g_region ?_
    refine l_move rfl rfl ?_
    refine l_move rfl rfl ?_
    refine l_call rfl Tryd.call53 rfl (rwithout_ok _ _ rb room L ka va kc vc hk hv hl j hjl) ?_; rintro _ _ ⟨ka1, va1, kc1, vc1, hk1, hv1, rfl⟩
    refine l_nil ?_
    refine g_seq ?_
    refine g_region ?_
    have hml : (L.eraseIdx j).length ≤ L.length := List.length_eraseIdx_le ..
    have hLU : (L.eraseIdx j).length + 1 = ((L.eraseIdx j) ++ [(k, u)]).length := by simp
    have hU1 : (k1 (L.eraseIdx j)) ++ [k] = (k1 ((L.eraseIdx j) ++ [(k, u)])) := by simp
    have hU2 : (k2 (L.eraseIdx j)) ++ [u] = (k2 ((L.eraseIdx j) ++ [(k, u)])) := by simp
    refine l_move rfl rfl ?_
    refine l_move rfl rfl ?_
    refine l_nilCheck rfl rfl ?_
    refine l_fieldAddr rfl fa_58_1 rfl ?_
    refine l_ld rfl Tryd.isAgg56 rfl rfl ?_
    refine l_move rfl rfl ?_
    refine l_buildSlice rfl Tryd.underlying56 Tryd.sizeOf9 Tryd.zeroValue9 rfl rfl rfl rfl rfl rfl ?_; intro b45
    refine l_frontv (.slice ka1 (L.eraseIdx j).length kc1) ?_
    refine l_append 0 (sz := 1) (by_ := 16) (m2 := 1) (news := [.string k]) rfl Tryd.underlying56 Tryd.type9 rfl rfl rfl rfl rfl rfl rfl rfl ⟨rfl, .inl ⟨_, _, _, rfl, .own (mem_getO 1 rfl)⟩⟩ rfl (by omega) (by simp only [maxLen]; omega) (fun _ => rfl) ?_; intro v46 hv46
    rw [strs_snoc, hU1, hLU]
    refine l_fact (own_cases (mem_getO 0 rfl)) ?_
    rintro ⟨_, _, hw46⟩
    obtain ⟨a46, c46, rfl, hs46⟩ := own_shape hw46
    clear hw46
    refine l_nilCheck rfl rfl ?_
    refine l_fieldAddr rfl fa_58_1 rfl ?_
    refine l_st Tryd.sizeOf56 rfl rfl rfl rfl ?_
    refine l_nil ?_
    refine g_seq ?_
    refine g_region ?_
    refine l_move rfl rfl ?_
    refine l_move rfl rfl ?_
    refine l_nilCheck rfl rfl ?_
    refine l_fieldAddr rfl fa_58_2 rfl ?_
    refine l_ld rfl Tryd.isAgg56 rfl rfl ?_
    refine l_move rfl rfl ?_
    refine l_buildSlice rfl Tryd.underlying56 Tryd.sizeOf9 Tryd.zeroValue9 rfl rfl rfl rfl rfl rfl ?_; intro b55
    refine l_frontv (.slice va1 (L.eraseIdx j).length vc1) ?_
    refine l_append 0 (sz := 1) (by_ := 16) (m2 := 1) (news := [.string u]) rfl Tryd.underlying56 Tryd.type9 rfl rfl rfl rfl rfl rfl rfl rfl ⟨rfl, .inl ⟨_, _, _, rfl, .own (mem_getO 1 rfl)⟩⟩ rfl (by omega) (by simp only [maxLen]; omega) (fun _ => rfl) ?_; intro v56 hv56
    rw [strs_snoc, hU2, hLU]
    refine l_fact (own_cases (mem_getO 0 rfl)) ?_
    rintro ⟨_, _, hw56⟩
    obtain ⟨a56, c56, rfl, hs56⟩ := own_shape hw56
    clear hw56
    refine l_nilCheck rfl rfl ?_
    refine l_fieldAddr rfl fa_58_2 rfl ?_
    refine l_st Tryd.sizeOf56 rfl rfl rfl rfl ?_
    refine l_nil ?_
    refine g_seq ?_
    refine g_region ?_
    refine l_move rfl rfl ?_
    refine l_move rfl rfl ?_
    refine l_assign rfl rfl ?_
    refine l_assign rfl rfl ?_
    refine l_nil ?_
    refine g_ret Tryd.func26 rfl (.tmp rfl (.tmp rfl .nil)) ?_
    have hput : putG room L k u = ((L.eraseIdx j) ++ [(k, u)]) := by unfold putG; rw [if_pos hc, ← hpk, (erase_del hnd hp).1]
    rw [hput]
    exact Gives.mki ⟨a46, a56, c46, c56, hs46, hs56, rfl, rfl⟩
  · intro hbr
    have hbr := of_decide_eq_false hbr
    (exfalso; omega)
set_option maxHeartbeats 2000000 in
theorem rput_full (w0 : World) (F : List Atom) (rb : Nat) (room : Int) (L : List (ByteArray × ByteArray)) (ka va : Option Addr) (kc vc : Nat) (hk : L.length = 0 ∨ ∃ g, ka = some ⟨g, 0, none⟩) (hv : L.length = 0 ∨ ∃ g, va = some ⟨g, 0, none⟩) (hl : L.length ≤ 4096) (hnd : (L.map (·.1)).Nodup) (k : ByteArray) (u : ByteArray) (hc : hasG L k = false) (hr : (L.length : Int) = room) (hr1 : 1 ≤ room) :
    CallK Tryd.prog 26 [.pointer (some ⟨rb, 0, none⟩), .string k, .string u] w0 (Blk rb (.cells [Value.int .i64 room, .slice ka L.length kc, .slice va L.length vc].toArray 58 (0, 0)) :: Own 9 1 (.slice ka L.length kc) L.length (strs (k1 L)) :: Own 9 1 (.slice va L.length vc) L.length (strs (k2 L)) :: F) (Gives w0 fun v F2 => ∃ ka1 va1 kc1 vc1, ((putG room L k u).length = 0 ∨ ∃ g, ka1 = some ⟨g, 0, none⟩) ∧ ((putG room L k u).length = 0 ∨ ∃ g, va1 = some ⟨g, 0, none⟩) ∧ v = .tuple #[.string ((goneG room L k).getD ⟨#[]⟩), .bool true] ∧ F2 = Blk rb (.cells [Value.int .i64 room, .slice ka1 (putG room L k u).length kc1, .slice va1 (putG room L k u).length vc1].toArray 58 (0, 0)) :: Own 9 1 (.slice ka1 (putG room L k u).length kc1) (putG room L k u).length (strs (k1 (putG room L k u))) :: Own 9 1 (.slice va1 (putG room L k u).length vc1) (putG room L k u).length (strs (k2 (putG room L k u))) :: F) := by
  refine c_enter Tryd.func26 rfl rfl rfl ?_
  refine g_seq ?_
  refine g_region ?_
  refine l_assign rfl rfl ?_
  refine l_assign rfl rfl ?_
  refine l_nil ?_
  refine g_seq ?_
  refine g_seq ?_
  refine g_region ?_
  refine l_move rfl rfl ?_
  refine l_eqpn rfl Tryd.underlying32 rfl rfl ?_
  refine l_nil ?_
  refine g_cond_f rfl ?_
  refine g_skip ?_
  refine g_seq ?_
  refine g_region ?_
  refine l_assign rfl rfl ?_
  refine l_assign rfl rfl ?_
  refine l_nil ?_
  refine g_seq ?_
  refine g_seq ?_
  refine g_region ?_
  refine l_move rfl rfl ?_
  refine l_move rfl rfl ?_
  refine l_call rfl Tryd.call52 rfl (rplace_ok _ _ rb room L ka va kc vc hk hv hl k) ?_; rintro _ _ ⟨⟨r, rfl, hr1_⟩, rfl⟩
  obtain rfl := (hr1_.resolve_right (fun ⟨j, _, p, hp, hpk⟩ => by have := (erase_del hnd hp).2.1; rw [hpk, hc] at this; cases this)).1
  refine l_assign rfl rfl ?_
  refine l_nil ?_
  refine g_seq ?_
  refine g_region ?_
  refine l_move rfl rfl ?_
  refine l_geq rfl rfl rfl ?_
  refine l_nil ?_
  refine g_cond rfl ?_ ?_
  · intro hbr
    have hbr := of_decide_eq_true hbr
    (exfalso; omega)
  intro hbr
  have hbr := of_decide_eq_false hbr
  refine g_seq ?_
  refine gp_start mo (by kernel_rfl) (by kernel_rfl) ?_
  refine gp_quiet 0 rfl rfl rfl rfl rfl rfl (q_move rfl) ?_
  refine gp_quiet 1 rfl rfl rfl rfl rfl rfl (q_nilCheck rfl) ?_
  refine gp_quiet 2 rfl rfl rfl rfl rfl rfl (q_fieldAddr fa_58_1 rfl) ?_
  refine gp_quiet 3 rfl rfl rfl rfl rfl rfl (q_ld Tryd.isAgg56 rfl rfl) ?_
  refine gp_quiet 4 rfl rfl rfl rfl rfl rfl (q_len Tryd.underlying56 rfl) ?_
  refine gp_quiet 5 rfl rfl rfl rfl rfl rfl (q_move rfl) ?_
  refine gp_quiet 6 rfl rfl rfl rfl rfl rfl (q_nilCheck rfl) ?_
  refine gp_quiet 7 rfl rfl rfl rfl rfl rfl (q_fieldAddr fa_58_0 rfl) ?_
  first | refine gp_quiet 8 rfl rfl rfl rfl rfl rfl (q_ld Tryd.isAgg3 rfl rfl) ?_ | refine gp_quiet 8 rfl rfl rfl rfl rfl rfl (q_ldw Tryd.isAgg3 rfl (by omega)) ?_
  refine gp_quiet 9 rfl rfl rfl rfl rfl rfl (q_eql rfl rfl) ?_
  refine gp_end rfl rfl ?_
  refine g_cond rfl ?_ ?_
  · intro hbr
    have hbr := of_decide_eq_true hbr
    refine g_seq ?_
    refine g_region ?_
    obtain ⟨p, hp⟩ := get_at (L := L) (j := 0) (by omega)
    obtain ⟨gk, rfl⟩ := hk.resolve_left (by omega)
    refine l_move rfl rfl ?_
    refine l_nilCheck rfl rfl ?_
    refine l_fieldAddr rfl fa_58_1 rfl ?_
    refine l_ld rfl Tryd.isAgg56 rfl rfl ?_
    refine l_ixs rfl Tryd.underlying56 Tryd.sizeOf9 rfl rfl (by omega) (by omega) ?_
    refine l_loadc (v := .string p.1) rfl Tryd.isAgg9 rfl (str_cell (k1_at hp).1 (by rfl)) ?_
    refine l_assign rfl rfl ?_
    refine l_assign rfl rfl ?_
    refine l_nil ?_
    refine g_region ?_
    refine l_move rfl rfl ?_
    refine l_call rfl Tryd.call53 rfl (rwithout_ok _ _ rb room L _ va kc vc hk hv hl 0 (by omega)) ?_; rintro _ _ ⟨ka1, va1, kc1, vc1, hk1, hv1, rfl⟩
    refine l_nil ?_
    refine g_seq ?_
    refine g_region ?_
    have hml : (L.eraseIdx 0).length ≤ L.length := List.length_eraseIdx_le ..
    have hLU : (L.eraseIdx 0).length + 1 = ((L.eraseIdx 0) ++ [(k, u)]).length := by simp
    have hU1 : (k1 (L.eraseIdx 0)) ++ [k] = (k1 ((L.eraseIdx 0) ++ [(k, u)])) := by simp
    have hU2 : (k2 (L.eraseIdx 0)) ++ [u] = (k2 ((L.eraseIdx 0) ++ [(k, u)])) := by simp
    refine l_move rfl rfl ?_
    refine l_move rfl rfl ?_
    refine l_nilCheck rfl rfl ?_
    refine l_fieldAddr rfl fa_58_1 rfl ?_
    refine l_ld rfl Tryd.isAgg56 rfl rfl ?_
    refine l_move rfl rfl ?_
    refine l_buildSlice rfl Tryd.underlying56 Tryd.sizeOf9 Tryd.zeroValue9 rfl rfl rfl rfl rfl rfl ?_; intro b45
    refine l_frontv (.slice ka1 (L.eraseIdx 0).length kc1) ?_
    refine l_append 0 (sz := 1) (by_ := 16) (m2 := 1) (news := [.string k]) rfl Tryd.underlying56 Tryd.type9 rfl rfl rfl rfl rfl rfl rfl rfl ⟨rfl, .inl ⟨_, _, _, rfl, .own (mem_getO 1 rfl)⟩⟩ rfl (by omega) (by simp only [maxLen]; omega) (fun _ => rfl) ?_; intro v46 hv46
    rw [strs_snoc, hU1, hLU]
    refine l_fact (own_cases (mem_getO 0 rfl)) ?_
    rintro ⟨_, _, hw46⟩
    obtain ⟨a46, c46, rfl, hs46⟩ := own_shape hw46
    clear hw46
    refine l_nilCheck rfl rfl ?_
    refine l_fieldAddr rfl fa_58_1 rfl ?_
    refine l_st Tryd.sizeOf56 rfl rfl rfl rfl ?_
    refine l_nil ?_
    refine g_seq ?_
    refine g_region ?_
    refine l_move rfl rfl ?_
    refine l_move rfl rfl ?_
    refine l_nilCheck rfl rfl ?_
    refine l_fieldAddr rfl fa_58_2 rfl ?_
    refine l_ld rfl Tryd.isAgg56 rfl rfl ?_
    refine l_move rfl rfl ?_
    refine l_buildSlice rfl Tryd.underlying56 Tryd.sizeOf9 Tryd.zeroValue9 rfl rfl rfl rfl rfl rfl ?_; intro b55
    refine l_frontv (.slice va1 (L.eraseIdx 0).length vc1) ?_
    refine l_append 0 (sz := 1) (by_ := 16) (m2 := 1) (news := [.string u]) rfl Tryd.underlying56 Tryd.type9 rfl rfl rfl rfl rfl rfl rfl rfl ⟨rfl, .inl ⟨_, _, _, rfl, .own (mem_getO 1 rfl)⟩⟩ rfl (by omega) (by simp only [maxLen]; omega) (fun _ => rfl) ?_; intro v56 hv56
    rw [strs_snoc, hU2, hLU]
    refine l_fact (own_cases (mem_getO 0 rfl)) ?_
    rintro ⟨_, _, hw56⟩
    obtain ⟨a56, c56, rfl, hs56⟩ := own_shape hw56
    clear hw56
    refine l_nilCheck rfl rfl ?_
    refine l_fieldAddr rfl fa_58_2 rfl ?_
    refine l_st Tryd.sizeOf56 rfl rfl rfl rfl ?_
    refine l_nil ?_
    refine g_seq ?_
    refine g_region ?_
    refine l_move rfl rfl ?_
    refine l_move rfl rfl ?_
    refine l_assign rfl rfl ?_
    refine l_assign rfl rfl ?_
    refine l_nil ?_
    refine g_ret Tryd.func26 rfl (.tmp rfl (.tmp rfl .nil)) ?_
    have hput : putG room L k u = ((L.eraseIdx 0) ++ [(k, u)]) := by unfold putG; rw [if_neg (by rw [hc]; decide), if_pos hr, List.drop_one, List.eraseIdx_zero]
    rw [hput]
    exact Gives.mki ⟨a46, a56, c46, c56, hs46, hs56, by unfold goneG; rw [if_neg (by rw [hc]; decide), if_pos hr, List.head?_eq_getElem?, hp]; rfl, rfl⟩
  · intro hbr
    have hbr := of_decide_eq_false hbr
    (exfalso; omega)
set_option maxHeartbeats 2000000 in
theorem rput_new (w0 : World) (F : List Atom) (rb : Nat) (room : Int) (L : List (ByteArray × ByteArray)) (ka va : Option Addr) (kc vc : Nat) (hk : L.length = 0 ∨ ∃ g, ka = some ⟨g, 0, none⟩) (hv : L.length = 0 ∨ ∃ g, va = some ⟨g, 0, none⟩) (hl : L.length ≤ 4096) (hnd : (L.map (·.1)).Nodup) (k : ByteArray) (u : ByteArray) (hc : hasG L k = false) (hr : (L.length : Int) ≠ room) :
    CallK Tryd.prog 26 [.pointer (some ⟨rb, 0, none⟩), .string k, .string u] w0 (Blk rb (.cells [Value.int .i64 room, .slice ka L.length kc, .slice va L.length vc].toArray 58 (0, 0)) :: Own 9 1 (.slice ka L.length kc) L.length (strs (k1 L)) :: Own 9 1 (.slice va L.length vc) L.length (strs (k2 L)) :: F) (Gives w0 fun v F2 => ∃ ka1 va1 kc1 vc1, ((putG room L k u).length = 0 ∨ ∃ g, ka1 = some ⟨g, 0, none⟩) ∧ ((putG room L k u).length = 0 ∨ ∃ g, va1 = some ⟨g, 0, none⟩) ∧ v = .tuple #[.string ⟨#[]⟩, .bool false] ∧ F2 = Blk rb (.cells [Value.int .i64 room, .slice ka1 (putG room L k u).length kc1, .slice va1 (putG room L k u).length vc1].toArray 58 (0, 0)) :: Own 9 1 (.slice ka1 (putG room L k u).length kc1) (putG room L k u).length (strs (k1 (putG room L k u))) :: Own 9 1 (.slice va1 (putG room L k u).length vc1) (putG room L k u).length (strs (k2 (putG room L k u))) :: F) := by
  refine c_enter Tryd.func26 rfl rfl rfl ?_
  refine g_seq ?_
  refine g_region ?_
  refine l_assign rfl rfl ?_
  refine l_assign rfl rfl ?_
  refine l_nil ?_
  refine g_seq ?_
  refine g_seq ?_
  refine g_region ?_
  refine l_move rfl rfl ?_
  refine l_eqpn rfl Tryd.underlying32 rfl rfl ?_
  refine l_nil ?_
  refine g_cond_f rfl ?_
  refine g_skip ?_
  refine g_seq ?_
  refine g_region ?_
  refine l_assign rfl rfl ?_
  refine l_assign rfl rfl ?_
  refine l_nil ?_
  refine g_seq ?_
  refine g_seq ?_
  refine g_region ?_
  refine l_move rfl rfl ?_
  refine l_move rfl rfl ?_
  refine l_call rfl Tryd.call52 rfl (rplace_ok _ _ rb room L ka va kc vc hk hv hl k) ?_; rintro _ _ ⟨⟨r, rfl, hr1_⟩, rfl⟩
  obtain rfl := (hr1_.resolve_right (fun ⟨j, _, p, hp, hpk⟩ => by have := (erase_del hnd hp).2.1; rw [hpk, hc] at this; cases this)).1
  refine l_assign rfl rfl ?_
  refine l_nil ?_
  refine g_seq ?_
  refine g_region ?_
  refine l_move rfl rfl ?_
  refine l_geq rfl rfl rfl ?_
  refine l_nil ?_
  refine g_cond rfl ?_ ?_
  · intro hbr
    have hbr := of_decide_eq_true hbr
    (exfalso; omega)
  intro hbr
  have hbr := of_decide_eq_false hbr
  refine g_seq ?_
  refine gp_start mo (by kernel_rfl) (by kernel_rfl) ?_
  refine gp_quiet 0 rfl rfl rfl rfl rfl rfl (q_move rfl) ?_
  refine gp_quiet 1 rfl rfl rfl rfl rfl rfl (q_nilCheck rfl) ?_
  refine gp_quiet 2 rfl rfl rfl rfl rfl rfl (q_fieldAddr fa_58_1 rfl) ?_
  refine gp_quiet 3 rfl rfl rfl rfl rfl rfl (q_ld Tryd.isAgg56 rfl rfl) ?_
  refine gp_quiet 4 rfl rfl rfl rfl rfl rfl (q_len Tryd.underlying56 rfl) ?_
  refine gp_quiet 5 rfl rfl rfl rfl rfl rfl (q_move rfl) ?_
  refine gp_quiet 6 rfl rfl rfl rfl rfl rfl (q_nilCheck rfl) ?_
  refine gp_quiet 7 rfl rfl rfl rfl rfl rfl (q_fieldAddr fa_58_0 rfl) ?_
  first | refine gp_quiet 8 rfl rfl rfl rfl rfl rfl (q_ld Tryd.isAgg3 rfl rfl) ?_ | refine gp_quiet 8 rfl rfl rfl rfl rfl rfl (q_ldw Tryd.isAgg3 rfl (by omega)) ?_
  refine gp_quiet 9 rfl rfl rfl rfl rfl rfl (q_eql rfl rfl) ?_
  refine gp_end rfl rfl ?_
  refine g_cond rfl ?_ ?_
  · intro hbr
    have hbr := of_decide_eq_true hbr
    (exfalso; omega)
  intro hbr
  have hbr := of_decide_eq_false hbr
  refine g_skip ?_
  refine g_seq ?_
  refine g_region ?_
  have hml : L.length ≤ L.length := Nat.le_refl _
  have hLU : L.length + 1 = (L ++ [(k, u)]).length := by simp
  have hU1 : (k1 L) ++ [k] = (k1 (L ++ [(k, u)])) := by simp
  have hU2 : (k2 L) ++ [u] = (k2 (L ++ [(k, u)])) := by simp
  refine l_move rfl rfl ?_
  refine l_move rfl rfl ?_
  refine l_nilCheck rfl rfl ?_
  refine l_fieldAddr rfl fa_58_1 rfl ?_
  refine l_ld rfl Tryd.isAgg56 rfl rfl ?_
  refine l_move rfl rfl ?_
  refine l_buildSlice rfl Tryd.underlying56 Tryd.sizeOf9 Tryd.zeroValue9 rfl rfl rfl rfl rfl rfl ?_; intro b45
  refine l_frontv (.slice ka L.length kc) ?_
  refine l_append 0 (sz := 1) (by_ := 16) (m2 := 1) (news := [.string k]) rfl Tryd.underlying56 Tryd.type9 rfl rfl rfl rfl rfl rfl rfl rfl ⟨rfl, .inl ⟨_, _, _, rfl, .own (mem_getO 1 rfl)⟩⟩ rfl (by omega) (by simp only [maxLen]; omega) (fun _ => rfl) ?_; intro v46 hv46
  rw [strs_snoc, hU1, hLU]
  refine l_fact (own_cases (mem_getO 0 rfl)) ?_
  rintro ⟨_, _, hw46⟩
  obtain ⟨a46, c46, rfl, hs46⟩ := own_shape hw46
  clear hw46
  refine l_nilCheck rfl rfl ?_
  refine l_fieldAddr rfl fa_58_1 rfl ?_
  refine l_st Tryd.sizeOf56 rfl rfl rfl rfl ?_
  refine l_nil ?_
  refine g_seq ?_
  refine g_region ?_
  refine l_move rfl rfl ?_
  refine l_move rfl rfl ?_
  refine l_nilCheck rfl rfl ?_
  refine l_fieldAddr rfl fa_58_2 rfl ?_
  refine l_ld rfl Tryd.isAgg56 rfl rfl ?_
  refine l_move rfl rfl ?_
  refine l_buildSlice rfl Tryd.underlying56 Tryd.sizeOf9 Tryd.zeroValue9 rfl rfl rfl rfl rfl rfl ?_; intro b55
  refine l_frontv (.slice va L.length vc) ?_
  refine l_append 0 (sz := 1) (by_ := 16) (m2 := 1) (news := [.string u]) rfl Tryd.underlying56 Tryd.type9 rfl rfl rfl rfl rfl rfl rfl rfl ⟨rfl, .inl ⟨_, _, _, rfl, .own (mem_getO 1 rfl)⟩⟩ rfl (by omega) (by simp only [maxLen]; omega) (fun _ => rfl) ?_; intro v56 hv56
  rw [strs_snoc, hU2, hLU]
  refine l_fact (own_cases (mem_getO 0 rfl)) ?_
  rintro ⟨_, _, hw56⟩
  obtain ⟨a56, c56, rfl, hs56⟩ := own_shape hw56
  clear hw56
  refine l_nilCheck rfl rfl ?_
  refine l_fieldAddr rfl fa_58_2 rfl ?_
  refine l_st Tryd.sizeOf56 rfl rfl rfl rfl ?_
  refine l_nil ?_
  refine g_seq ?_
  refine g_region ?_
  refine l_move rfl rfl ?_
  refine l_move rfl rfl ?_
  refine l_assign rfl rfl ?_
  refine l_assign rfl rfl ?_
  refine l_nil ?_
  refine g_ret Tryd.func26 rfl (.tmp rfl (.tmp rfl .nil)) ?_
  have hput : putG room L k u = (L ++ [(k, u)]) := by unfold putG; rw [if_neg (by rw [hc]; decide), if_neg hr]
  rw [hput]
  exact Gives.mki ⟨a46, a56, c46, c56, hs46, hs56, rfl, rfl⟩
theorem rput_ok (w0 : World) (F : List Atom) (rb : Nat) (room : Int) (L : List (ByteArray × ByteArray)) (ka va : Option Addr) (kc vc : Nat) (hk : L.length = 0 ∨ ∃ g, ka = some ⟨g, 0, none⟩) (hv : L.length = 0 ∨ ∃ g, va = some ⟨g, 0, none⟩) (hl : L.length ≤ 4096) (hnd : (L.map (·.1)).Nodup) (k : ByteArray) (u : ByteArray) (hr1 : 1 ≤ room) : CallK Tryd.prog 26 [.pointer (some ⟨rb, 0, none⟩), .string k, .string u] w0 (Blk rb (.cells [Value.int .i64 room, .slice ka L.length kc, .slice va L.length vc].toArray 58 (0, 0)) :: Own 9 1 (.slice ka L.length kc) L.length (strs (k1 L)) :: Own 9 1 (.slice va L.length vc) L.length (strs (k2 L)) :: F) (Gives w0 fun v F2 => ∃ ka1 va1 kc1 vc1, ((putG room L k u).length = 0 ∨ ∃ g, ka1 = some ⟨g, 0, none⟩) ∧ ((putG room L k u).length = 0 ∨ ∃ g, va1 = some ⟨g, 0, none⟩) ∧ v = .tuple #[.string ((goneG room L k).getD ⟨#[]⟩), .bool (goneG room L k).isSome] ∧ F2 = Blk rb (.cells [Value.int .i64 room, .slice ka1 (putG room L k u).length kc1, .slice va1 (putG room L k u).length vc1].toArray 58 (0, 0)) :: Own 9 1 (.slice ka1 (putG room L k u).length kc1) (putG room L k u).length (strs (k1 (putG room L k u))) :: Own 9 1 (.slice va1 (putG room L k u).length vc1) (putG room L k u).length (strs (k2 (putG room L k u))) :: F) := by
  cases hc : hasG L k with
  | true =>
    have g1 : goneG room L k = none := by unfold goneG; rw [if_pos hc]
    rw [g1]
    exact rput_has w0 F rb room L ka va kc vc hk hv hl hnd k u hc
  | false =>
    by_cases hr : (L.length : Int) = room
    · have g1 : (goneG room L k).isSome = true := by
        unfold goneG
        rw [if_neg (by rw [hc]; decide), if_pos hr]
        cases L with
        | nil => simp only [List.length_nil] at hr; omega
        | cons p l => rfl
      rw [g1]
      exact rput_full w0 F rb room L ka va kc vc hk hv hl hnd k u hc hr hr1
    · have g1 : goneG room L k = none := by unfold goneG; rw [if_neg (by rw [hc]; decide), if_neg hr]
      rw [g1]
      exact rput_new w0 F rb room L ka va kc vc hk hv hl hnd k u hc hr
theorem rget_ok (w0 : World) (F : List Atom) (rb : Nat) (room : Int) (L : List (ByteArray × ByteArray)) (ka va : Option Addr) (kc vc : Nat) (hk : L.length = 0 ∨ ∃ g, ka = some ⟨g, 0, none⟩) (hv : L.length = 0 ∨ ∃ g, va = some ⟨g, 0, none⟩) (hl : L.length ≤ 4096) (hnd : (L.map (·.1)).Nodup) (k : ByteArray) (hr1 : 1 ≤ room) :
    CallK Tryd.prog 28 [.pointer (some ⟨rb, 0, none⟩), .string k] w0 (Blk rb (.cells [Value.int .i64 room, .slice ka L.length kc, .slice va L.length vc].toArray 58 (0, 0)) :: Own 9 1 (.slice ka L.length kc) L.length (strs (k1 L)) :: Own 9 1 (.slice va L.length vc) L.length (strs (k2 L)) :: F) (Gives w0 fun v F2 => ∃ ka1 va1 kc1 vc1, ((getG ⟨#[]⟩ L k).length = 0 ∨ ∃ g, ka1 = some ⟨g, 0, none⟩) ∧ ((getG ⟨#[]⟩ L k).length = 0 ∨ ∃ g, va1 = some ⟨g, 0, none⟩) ∧ v = .tuple #[.string (valG ⟨#[]⟩ L k), .bool (hasG L k)] ∧ F2 = Blk rb (.cells [Value.int .i64 room, .slice ka1 (getG ⟨#[]⟩ L k).length kc1, .slice va1 (getG ⟨#[]⟩ L k).length vc1].toArray 58 (0, 0)) :: Own 9 1 (.slice ka1 (getG ⟨#[]⟩ L k).length kc1) (getG ⟨#[]⟩ L k).length (strs (k1 (getG ⟨#[]⟩ L k))) :: Own 9 1 (.slice va1 (getG ⟨#[]⟩ L k).length vc1) (getG ⟨#[]⟩ L k).length (strs (k2 (getG ⟨#[]⟩ L k))) :: F) := by
  refine c_enter Tryd.func28 rfl rfl rfl ?_
  refine g_seq ?_
  refine g_region ?_
  refine l_assign rfl rfl ?_
  refine l_assign rfl rfl ?_
  refine l_nil ?_
  refine g_seq ?_
  refine g_region ?_
  refine l_move rfl rfl ?_
  refine l_move rfl rfl ?_
  refine l_call rfl Tryd.call30 rfl (rpeek_ok _ _ rb room L ka va kc vc hk hv hl hnd k) ?_; rintro _ _ ⟨rfl, rfl⟩
  refine l_move rfl rfl ?_
  refine l_extract rfl rfl rfl ?_
  refine l_extract rfl rfl rfl ?_
  refine l_assign rfl rfl ?_
  refine l_assign rfl rfl ?_
  refine l_nil ?_
  refine g_seq ?_
  refine g_seq ?_
  refine g_region ?_
  refine l_move rfl rfl ?_
  refine l_nil ?_
  refine g_cond rfl ?_ ?_
  · intro hbr
    have hb14 := hbr
    refine g_region ?_
    refine l_move rfl rfl ?_
    refine l_move rfl rfl ?_
    refine l_move rfl rfl ?_
    refine l_call rfl Tryd.call26 rfl (rput_ok _ _ rb room L ka va kc vc hk hv hl hnd k (valG ⟨#[]⟩ L k) hr1) ?_; rintro _ _ ⟨ka1, va1, kc1, vc1, hk1, hv1, rfl, rfl⟩
    refine l_nil ?_
    refine g_seq ?_
    refine g_region ?_
    refine l_move rfl rfl ?_
    refine l_move rfl rfl ?_
    refine l_assign rfl rfl ?_
    refine l_assign rfl rfl ?_
    refine l_nil ?_
    refine g_ret Tryd.func28 rfl (.tmp rfl (.tmp rfl .nil)) ?_
    (first | (rw [getG_put (room := room) hbr]; exact Gives.mki ⟨ka1, va1, kc1, vc1, hk1, hv1, rfl, rfl⟩) | (rw [show getG ⟨#[]⟩ L k = L by unfold getG; rw [if_neg (by rw [hbr]; decide)]]; exact Gives.mki ⟨ka, va, kc, vc, hk, hv, rfl, rfl⟩))
  intro hbr
  have hb14 := hbr
  refine g_skip ?_
  refine g_seq ?_
  refine g_region ?_
  refine l_move rfl rfl ?_
  refine l_move rfl rfl ?_
  refine l_assign rfl rfl ?_
  refine l_assign rfl rfl ?_
  refine l_nil ?_
  refine g_ret Tryd.func28 rfl (.tmp rfl (.tmp rfl .nil)) ?_
  (first | (rw [getG_put (room := room) hbr]; exact Gives.mki ⟨ka1, va1, kc1, vc1, hk1, hv1, rfl, rfl⟩) | (rw [show getG ⟨#[]⟩ L k = L by unfold getG; rw [if_neg (by rw [hbr]; decide)]]; exact Gives.mki ⟨ka, va, kc, vc, hk, hv, rfl, rfl⟩))
theorem rdrop_ok (w0 : World) (F : List Atom) (rb : Nat) (room : Int) (L : List (ByteArray × ByteArray)) (ka va : Option Addr) (kc vc : Nat) (hk : L.length = 0 ∨ ∃ g, ka = some ⟨g, 0, none⟩) (hv : L.length = 0 ∨ ∃ g, va = some ⟨g, 0, none⟩) (hl : L.length ≤ 4096) (hnd : (L.map (·.1)).Nodup) (k : ByteArray) :
    CallK Tryd.prog 32 [.pointer (some ⟨rb, 0, none⟩), .string k] w0 (Blk rb (.cells [Value.int .i64 room, .slice ka L.length kc, .slice va L.length vc].toArray 58 (0, 0)) :: Own 9 1 (.slice ka L.length kc) L.length (strs (k1 L)) :: Own 9 1 (.slice va L.length vc) L.length (strs (k2 L)) :: F) (Gives w0 fun v F2 => ∃ ka1 va1 kc1 vc1, ((delG L k).length = 0 ∨ ∃ g, ka1 = some ⟨g, 0, none⟩) ∧ ((delG L k).length = 0 ∨ ∃ g, va1 = some ⟨g, 0, none⟩) ∧ v = .bool (hasG L k) ∧ F2 = Blk rb (.cells [Value.int .i64 room, .slice ka1 (delG L k).length kc1, .slice va1 (delG L k).length vc1].toArray 58 (0, 0)) :: Own 9 1 (.slice ka1 (delG L k).length kc1) (delG L k).length (strs (k1 (delG L k))) :: Own 9 1 (.slice va1 (delG L k).length vc1) (delG L k).length (strs (k2 (delG L k))) :: F) := by
  refine c_enter Tryd.func32 rfl rfl rfl ?_
  refine g_seq ?_
  refine g_region ?_
  refine l_assign rfl rfl ?_
  refine l_nil ?_
  refine g_seq ?_
  refine g_seq ?_
  refine g_region ?_
  refine l_move rfl rfl ?_
  refine l_eqpn rfl Tryd.underlying32 rfl rfl ?_
  refine l_move rfl rfl ?_
  refine l_guard_yes rfl rfl ?_
  refine l_move rfl rfl ?_
  refine l_guard_yes rfl rfl ?_
  refine l_move rfl rfl ?_
  refine l_guard_yes rfl rfl ?_
  refine l_call rfl Tryd.call52 rfl (rplace_ok _ _ rb room L ka va kc vc hk hv hl k) ?_; rintro _ _ ⟨⟨r1, rfl, hr1⟩, rfl⟩
  refine l_guard_yes rfl rfl ?_
  refine l_lss rfl rfl rfl ?_
  refine l_pick_f rfl rfl rfl ?_
  refine l_nil ?_
  refine g_cond rfl ?_ ?_
  · intro hbr
    have hbr := of_decide_eq_true hbr
    refine g_seq ?_
    refine g_region ?_
    refine l_assign rfl rfl ?_
    refine l_nil ?_
    refine g_ret Tryd.func32 rfl (.tmp rfl .nil) ?_
    (first | (have hd := (erase_del hnd hip).1; rw [hik] at hd; rw [← hd]; exact Gives.mki ⟨ka1, va1, kc1, vc1, hk1, hv1, by rw [hh]; rfl, rfl⟩) | (have hc := (hr1.resolve_right (fun ⟨j, h, _⟩ => by omega)).2; rw [show delG L k = L from delG_none fun p hp e => by have := hasG_mem.2 (List.mem_map.2 ⟨p, hp, e⟩); rw [hc] at this; cases this]; exact Gives.mki ⟨ka, va, kc, vc, hk, hv, by rw [hc]; rfl, rfl⟩))
  intro hbr
  have hbr := of_decide_eq_false hbr
  refine g_skip ?_
  refine g_seq ?_
  refine g_region ?_
  obtain ⟨j, rfl, pj, hjp, hjk⟩ := hr1.resolve_left (fun h => by first | omega | (rw [h.2] at hh; cases hh))
  have hh : hasG L k = true := by have := (erase_del hnd hjp).2.1; rw [hjk] at this; exact this
  refine l_move rfl rfl ?_
  refine l_move rfl rfl ?_
  refine l_move rfl rfl ?_
  refine l_call rfl Tryd.call52 rfl (rplace_ok _ _ rb room L ka va kc vc hk hv hl k) ?_; rintro _ _ ⟨⟨r2, rfl, hr2⟩, rfl⟩
  obtain ⟨i, rfl, pi, hip, hik⟩ := hr2.resolve_left (fun h => by first | omega | (rw [h.2] at hh; cases hh))
  have hil := (List.getElem?_eq_some_iff.1 hip).1
  refine l_call rfl Tryd.call53 rfl (rwithout_ok _ _ rb room L ka va kc vc hk hv hl i hil) ?_; rintro _ _ ⟨ka1, va1, kc1, vc1, hk1, hv1, rfl⟩
  refine l_nil ?_
  refine g_seq ?_
  refine g_region ?_
  refine l_assign rfl rfl ?_
  refine l_nil ?_
  refine g_ret Tryd.func32 rfl (.tmp rfl .nil) ?_
  (first | (have hd := (erase_del hnd hip).1; rw [hik] at hd; rw [← hd]; exact Gives.mki ⟨ka1, va1, kc1, vc1, hk1, hv1, by rw [hh]; rfl, rfl⟩) | (have hc := (hr1.resolve_right (fun ⟨j, h, _⟩ => by omega)).2; rw [show delG L k = L from delG_none fun p hp e => by have := hasG_mem.2 (List.mem_map.2 ⟨p, hp, e⟩); rw [hc] at this; cases this]; exact Gives.mki ⟨ka, va, kc, vc, hk, hv, by rw [hc]; rfl, rfl⟩))
theorem rclear_ok (w0 : World) (F : List Atom) (rb : Nat) (room : Int) (ks vs : Value) :
    CallK Tryd.prog 34 [.pointer (some ⟨rb, 0, none⟩)] w0 (Blk rb (.cells [Value.int .i64 room, ks, vs].toArray 58 (0, 0)) :: F) (Gives w0 fun v F2 => F2 = Blk rb (.cells [Value.int .i64 room, .slice none 0 0, .slice none 0 0].toArray 58 (0, 0)) :: Own 9 1 (.slice none 0 0) 0 [] :: Own 9 1 (.slice none 0 0) 0 [] :: F) := by
  refine c_own_nil 9 ?_
  refine c_own_nil 9 ?_
  refine c_enter Tryd.func34 rfl rfl rfl ?_
  refine g_seq ?_
  refine g_region ?_
  refine l_move rfl rfl ?_
  refine l_nepn rfl Tryd.underlying32 rfl rfl ?_
  refine l_nil ?_
  refine g_cond_t rfl ?_
  refine g_seq ?_
  refine g_region ?_
  refine l_move rfl rfl ?_
  refine l_nilCheck rfl rfl ?_
  refine l_fieldAddr rfl fa_58_1 rfl ?_
  refine l_st Tryd.sizeOf56 rfl rfl rfl rfl ?_
  refine l_nil ?_
  refine g_region ?_
  refine l_move rfl rfl ?_
  refine l_nilCheck rfl rfl ?_
  refine l_fieldAddr rfl fa_58_2 rfl ?_
  refine l_st Tryd.sizeOf56 rfl rfl rfl rfl ?_
  refine l_nil ?_
  refine g_end Tryd.func34 rfl .nil ?_
  exact Gives.mki rfl
theorem rroom_ok (w0 : World) (F : List Atom) (rb : Nat) (room : Int) (L : List (ByteArray × ByteArray)) (ka va : Option Addr) (kc vc : Nat) (hk : L.length = 0 ∨ ∃ g, ka = some ⟨g, 0, none⟩) (hv : L.length = 0 ∨ ∃ g, va = some ⟨g, 0, none⟩) (hl : L.length ≤ 4096) :
    CallK Tryd.prog 19 [.pointer (some ⟨rb, 0, none⟩)] w0 (Blk rb (.cells [Value.int .i64 room, .slice ka L.length kc, .slice va L.length vc].toArray 58 (0, 0)) :: Own 9 1 (.slice ka L.length kc) L.length (strs (k1 L)) :: Own 9 1 (.slice va L.length vc) L.length (strs (k2 L)) :: F) (Gives w0 fun v F2 => v = .int .i64 room ∧ F2 = Blk rb (.cells [Value.int .i64 room, .slice ka L.length kc, .slice va L.length vc].toArray 58 (0, 0)) :: Own 9 1 (.slice ka L.length kc) L.length (strs (k1 L)) :: Own 9 1 (.slice va L.length vc) L.length (strs (k2 L)) :: F) := by
  refine c_enter Tryd.func19 rfl rfl rfl ?_
  refine g_seq ?_
  refine g_region ?_
  refine l_assign rfl rfl ?_
  refine l_nil ?_
  refine g_seq ?_
  refine g_seq ?_
  refine g_region ?_
  refine l_move rfl rfl ?_
  refine l_eqpn rfl Tryd.underlying32 rfl rfl ?_
  refine l_nil ?_
  refine g_cond_f rfl ?_
  refine g_skip ?_
  refine g_seq ?_
  refine g_region ?_
  refine l_move rfl rfl ?_
  refine l_nilCheck rfl rfl ?_
  refine l_fieldAddr rfl fa_58_0 rfl ?_
  first | refine l_ld rfl Tryd.isAgg3 rfl rfl ?_ | refine l_ldw rfl Tryd.isAgg3 rfl (by omega) ?_
  refine l_assign rfl rfl ?_
  refine l_nil ?_
  refine g_ret Tryd.func19 rfl (.tmp rfl .nil) ?_
  exact Gives.mki ⟨rfl, rfl⟩
theorem rlen_ok (w0 : World) (F : List Atom) (rb : Nat) (room : Int) (L : List (ByteArray × ByteArray)) (ka va : Option Addr) (kc vc : Nat) (hk : L.length = 0 ∨ ∃ g, ka = some ⟨g, 0, none⟩) (hv : L.length = 0 ∨ ∃ g, va = some ⟨g, 0, none⟩) (hl : L.length ≤ 4096) :
    CallK Tryd.prog 13 [.pointer (some ⟨rb, 0, none⟩)] w0 (Blk rb (.cells [Value.int .i64 room, .slice ka L.length kc, .slice va L.length vc].toArray 58 (0, 0)) :: Own 9 1 (.slice ka L.length kc) L.length (strs (k1 L)) :: Own 9 1 (.slice va L.length vc) L.length (strs (k2 L)) :: F) (Gives w0 fun v F2 => v = .int .i64 (L.length : Int) ∧ F2 = Blk rb (.cells [Value.int .i64 room, .slice ka L.length kc, .slice va L.length vc].toArray 58 (0, 0)) :: Own 9 1 (.slice ka L.length kc) L.length (strs (k1 L)) :: Own 9 1 (.slice va L.length vc) L.length (strs (k2 L)) :: F) := by
  refine c_enter Tryd.func13 rfl rfl rfl ?_
  refine g_seq ?_
  refine g_region ?_
  refine l_assign rfl rfl ?_
  refine l_nil ?_
  refine g_seq ?_
  refine g_seq ?_
  refine g_region ?_
  refine l_move rfl rfl ?_
  refine l_eqpn rfl Tryd.underlying32 rfl rfl ?_
  refine l_nil ?_
  refine g_cond_f rfl ?_
  refine g_skip ?_
  refine g_seq ?_
  refine g_region ?_
  refine l_move rfl rfl ?_
  refine l_nilCheck rfl rfl ?_
  refine l_fieldAddr rfl fa_58_1 rfl ?_
  refine l_ld rfl Tryd.isAgg56 rfl rfl ?_
  refine l_len rfl Tryd.underlying56 rfl ?_
  refine l_assign rfl rfl ?_
  refine l_nil ?_
  refine g_ret Tryd.func13 rfl (.tmp rfl .nil) ?_
  exact Gives.mki ⟨rfl, rfl⟩
theorem rnew_ok (w0 : World) (F : List Atom) (room : Int) (r1 : 1 ≤ room) (r2 : room ≤ 4096) :
    CallK Tryd.prog 7 [.int .i64 room] w0 (F) (Gives w0 fun v F2 => ∃ rb, v = .tuple #[.pointer (some ⟨rb, 0, none⟩), .int .i64 0] ∧ F2 = Blk rb (.cells [Value.int .i64 room, .slice none 0 0, .slice none 0 0].toArray 58 (0, 0)) :: Own 9 1 (.slice none 0 0) 0 [] :: Own 9 1 (.slice none 0 0) 0 [] :: F) := by
  refine c_own_nil 9 ?_
  refine c_own_nil 9 ?_
  refine c_enter Tryd.func7 rfl rfl rfl ?_
  refine g_seq ?_
  refine g_region ?_
  refine l_assign rfl rfl ?_
  refine l_assign rfl rfl ?_
  refine l_nil ?_
  refine g_seq ?_
  refine g_seq ?_
  refine g_region ?_
  refine l_move rfl rfl ?_
  refine l_lss rfl rfl rfl ?_
  refine l_move rfl rfl ?_
  refine l_split 6 rfl ?_ ?_
  · intro hbr
    have hbr := of_decide_eq_true hbr
    (exfalso; omega)
  intro hbr
  have hbr := of_decide_eq_false hbr
  refine l_guard_yes rfl rfl ?_
  refine l_move rfl rfl ?_
  refine l_guard_yes rfl rfl ?_
  refine l_gtr rfl rfl rfl ?_
  refine l_pick_f rfl rfl rfl ?_
  refine l_nil ?_
  refine g_cond rfl ?_ ?_
  · intro hbr
    have hbr := of_decide_eq_true hbr
    (exfalso; omega)
  intro hbr
  have hbr := of_decide_eq_false hbr
  refine g_skip ?_
  refine g_seq ?_
  refine g_region ?_
  refine l_move rfl rfl ?_
  refine l_build rfl rfl (fun w => bd_58_0 _ w) ?_
  refine l_boxs rfl rfl ?_; intro b12
  refine l_assign rfl rfl ?_
  refine l_assign rfl rfl ?_
  refine l_nil ?_
  refine g_ret Tryd.func7 rfl (.tmp rfl (.tmp rfl .nil)) ?_
  exact Gives.mki ⟨b12, rfl, rfl⟩
theorem rnew_bad (w0 : World) (F : List Atom) (room : Int) (hr : room < 1 ∨ 4096 < room) :
    CallK Tryd.prog 7 [.int .i64 room] w0 (F) (Gives w0 fun v F2 => v = .tuple #[.pointer none, .int .i64 60] ∧ F2 = F) := by
  refine c_enter Tryd.func7 rfl rfl rfl ?_
  refine g_seq ?_
  refine g_region ?_
  refine l_assign rfl rfl ?_
  refine l_assign rfl rfl ?_
  refine l_nil ?_
  refine g_seq ?_
  refine g_seq ?_
  refine g_region ?_
  refine l_move rfl rfl ?_
  refine l_lss rfl rfl rfl ?_
  refine l_move rfl rfl ?_
  refine l_split 6 rfl ?_ ?_
  · intro hbr
    have hbr := of_decide_eq_true hbr
    refine l_guard_no rfl rfl rfl ?_
    refine l_guard_no rfl rfl rfl ?_
    refine l_pick_t rfl rfl rfl ?_
    refine l_nil ?_
    refine g_cond_t rfl ?_
    refine g_seq ?_
    refine g_region ?_
    refine l_assign rfl rfl ?_
    refine l_assign rfl rfl ?_
    refine l_nil ?_
    refine g_ret Tryd.func7 rfl (.tmp rfl (.tmp rfl .nil)) ?_
    exact Gives.mki ⟨rfl, rfl⟩
  intro hbr
  have hbr := of_decide_eq_false hbr
  refine l_guard_yes rfl rfl ?_
  refine l_move rfl rfl ?_
  refine l_guard_yes rfl rfl ?_
  refine l_gtr rfl rfl rfl ?_
  refine l_pick_f rfl rfl rfl ?_
  refine l_nil ?_
  refine g_cond rfl ?_ ?_
  · intro hbr
    have hbr := of_decide_eq_true hbr
    refine g_seq ?_
    refine g_region ?_
    refine l_assign rfl rfl ?_
    refine l_assign rfl rfl ?_
    refine l_nil ?_
    refine g_ret Tryd.func7 rfl (.tmp rfl (.tmp rfl .nil)) ?_
    exact Gives.mki ⟨rfl, rfl⟩
  · intro hbr
    have hbr := of_decide_eq_false hbr
    (exfalso; omega)
end Go.Proofs.YtjfibfbknfeflaaDoor.Fw
