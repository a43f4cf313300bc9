import Derived.Test.YtjfibfbknfeflaaDoorDAll
namespace Go.Proofs.YtjfibfbknfeflaaDoor.Fw
open Go Go.Proofs
set_option linter.unusedVariables false
set_option linter.unusedSimpArgs false
set_option maxRecDepth 10000
theorem fa_37_0 (a : Addr) (w : World) : (Instr.fieldAt 37 (.pointer (some a)) 0).run Tryd.prog w = .ok (.pointer (some (a.add 0))) w := by
  simp [Instr.fieldAt, Tryd.runUnderlying37, Instr.sureAddr, fieldPlace, Tryd.sizeOf3, Sem.run_bind, Sem.run_pure]
theorem fa_37_1 (a : Addr) (w : World) : (Instr.fieldAt 37 (.pointer (some a)) 1).run Tryd.prog w = .ok (.pointer (some (a.add 1))) w := by
  simp [Instr.fieldAt, Tryd.runUnderlying37, Instr.sureAddr, fieldPlace, Tryd.sizeOf3, Sem.run_bind, Sem.run_pure]
theorem fa_37_2 (a : Addr) (w : World) : (Instr.fieldAt 37 (.pointer (some a)) 2).run Tryd.prog w = .ok (.pointer (some (a.add 2))) w := by
  simp [Instr.fieldAt, Tryd.runUnderlying37, Instr.sureAddr, fieldPlace, Tryd.sizeOf9, Sem.run_bind, Sem.run_pure]
theorem prs_len (xs : List Nd) : (prs xs).length = xs.length := pg_len ..
theorem VSt.nil : VSt [] := fun x hx => by cases hx
def HK (L : List (Int × ByteArray)) : Prop := ∀ p ∈ L, I64 p.1
theorem HK.keys {xs : List Nd} (h : HK (prs xs)) (j : Nat) : I64 ((xs.map Nd.k).getD j 0) := by
  by_cases hj : j < xs.length
  · have e : (xs.map Nd.k).getD j 0 = xs[j].k := by simp [hj]
    rw [e]
    exact h (xs[j].k, vstr xs[j].v) (List.mem_map.2 ⟨xs[j], List.getElem_mem _, rfl⟩)
  · have e : (xs.map Nd.k).getD j 0 = 0 := by simp [List.getElem?_eq_none (Nat.le_of_not_lt hj)]
    rw [e]
    exact ⟨by decide, by decide⟩
theorem HK.del {L : List (Int × ByteArray)} (h : HK L) (k : Int) : HK (delG L k) := fun p hp => h p (List.mem_filter.1 hp).1
theorem HK.snoc {L : List (Int × ByteArray)} (h : HK L) {k : Int} (hk : I64 k) (v : ByteArray) : HK (L ++ [(k, v)]) := fun p hp => by
  rcases List.mem_append.1 hp with hp | hp
  · exact h p hp
  · obtain rfl := List.mem_singleton.1 hp
    exact hk
theorem HK.put {L : List (Int × ByteArray)} (h : HK L) (room : Int) {k : Int} (hk : I64 k) (v : ByteArray) : HK (putG room L k v) := by
  unfold putG
  split
  · exact (h.del k).snoc hk v
  · split
    · exact HK.snoc (fun p hp => h p (List.mem_of_mem_drop hp)) hk v
    · exact h.snoc hk v
theorem HK.get {L : List (Int × ByteArray)} (h : HK L) {k : Int} (hk : I64 k) (d : ByteArray) : HK (getG d L k) := by
  unfold getG
  split
  · exact (h.del k).snoc hk _
  · exact h
theorem HK.nil : HK [] := fun p hp => by cases hp
theorem Both.put {room : Int} {kv lv : List (Int × Value)} {xs y : List Nd} {L : List (ByteArray × ByteArray)} {ka va ka1 va1 : Option Addr} (h : Both room kv xs L ka va) (hr : 1 ≤ room) {k : Int} {u : ByteArray} (hS : ShOk lv y) (hV : VSt y) (hQ : prs y = putG room (prs xs) k u) (h1 : (putG room L (keyT k) u).length = 0 ∨ ∃ g, ka1 = some ⟨g, 0, none⟩) (h2 : (putG room L (keyT k) u).length = 0 ∨ ∃ g, va1 = some ⟨g, 0, none⟩) : Both room lv y (putG room L (keyT k) u) ka1 va1 := by
  refine ⟨hS, hV, ?_, ?_, h1, h2⟩
  · rw [← prs_len, hQ]
    exact putG_len hr (by rw [prs_len]; exact h.2.2.1)
  · rw [h.2.2.2.1, hQ]
    exact putG_mp keyT_inj _ _ _ _
theorem Both.get {room : Int} {kv lv : List (Int × Value)} {xs y : List Nd} {L : List (ByteArray × ByteArray)} {ka va ka1 va1 : Option Addr} (h : Both room kv xs L ka va) {k : Int} (hS : ShOk lv y) (hV : VSt y) (hQ : prs y = getG ⟨#[]⟩ (prs xs) k) (h1 : (getG ⟨#[]⟩ L (keyT k)).length = 0 ∨ ∃ g, ka1 = some ⟨g, 0, none⟩) (h2 : (getG ⟨#[]⟩ L (keyT k)).length = 0 ∨ ∃ g, va1 = some ⟨g, 0, none⟩) : Both room lv y (getG ⟨#[]⟩ L (keyT k)) ka1 va1 := by
  refine ⟨hS, hV, ?_, ?_, h1, h2⟩
  · rw [← prs_len, hQ]
    exact getG_len (by rw [prs_len]; exact h.2.2.1)
  · rw [h.2.2.2.1, hQ]
    exact getG_mp keyT_inj _ _ _ _
theorem Both.drop {room : Int} {kv lv : List (Int × Value)} {xs y : List Nd} {L : List (ByteArray × ByteArray)} {ka va ka1 va1 : Option Addr} (h : Both room kv xs L ka va) {k : Int} (hS : ShOk lv y) (hV : VSt y) (hQ : prs y = delG (prs xs) k) (h1 : (delG L (keyT k)).length = 0 ∨ ∃ g, ka1 = some ⟨g, 0, none⟩) (h2 : (delG L (keyT k)).length = 0 ∨ ∃ g, va1 = some ⟨g, 0, none⟩) : Both room lv y (delG L (keyT k)) ka1 va1 := by
  refine ⟨hS, hV, ?_, ?_, h1, h2⟩
  · rw [← prs_len, hQ]
    have := delG_le (prs xs) k
    rw [prs_len] at this
    have := h.2.2.1
    omega
  · rw [h.2.2.2.1, hQ]
    exact delG_mp keyT_inj _ _
theorem Both.nil {room : Int} (hr : 1 ≤ room) : Both room [] [] [] none none := ⟨ShOk.nil, VSt.nil, by simp only [List.length_nil]; omega, rfl, Or.inl rfl, Or.inl rfl⟩
theorem both_gone {room : Int} {xs : List Nd} {L : List (ByteArray × ByteArray)} (h : L = mp keyT (fun v => v) (prs xs)) (k : Int) : goneG room L (keyT k) = (goneG room (prs xs) k).map keyT := by
  subst h
  exact goneG_mp keyT_inj _ _ _
section
variable {P : Program} {f : Fr} {w0 : World} {K : Post} {n : Nat} {d : List Deferred} {ops : Array Oper} {k : List Item} {e : Env} {F F' : List Atom}
theorem gp_take {D A : List Nat} (B : Atom) [h : Takes F B F'] (hk : GP P f w0 K n d ops k D A e (B :: F')) : GP P f w0 K n d ops k D A e F := fun hreg hac hPA hp => by
  intro X hX fuel listed a w h1 h2 h3 h4 hw
  exact hk hreg hac hPA (hp.perm h.perm) X hX fuel listed a w h1 h2 h3 h4 (hw.perm h.perm)
end
theorem gone_key {room : Int} {L : List (Int × ByteArray)} {k q : Int} (h : HK L) (hg : goneG room L k = some q) : I64 q := by
  unfold goneG at hg
  split at hg
  · cases hg
  · split at hg
    · cases L with
      | nil => cases hg
      | cons p l => cases hg; exact h p (List.mem_cons_self ..)
    · cases hg
set_option maxHeartbeats 8000000 in
theorem one_ok (w0 : World) (F : List Atom) (sb m rb : Nat) (room : Int) (kv : List (Int × Value)) (xs : List Nd) (L : List (ByteArray × ByteArray)) (ka va : Option Addr) (kc vc : Nat) (hB : Both room kv xs L ka va) (hr2 : room ≤ 4096) (hK : HK (prs xs)) (hT : Tab w0 F) (hr1 : 1 ≤ room) (kd key : Int) (txt : ByteArray) (ho : I64 key) :
    CallK Tryd.prog 15 [.agg #[.pointer (some ⟨sb, 0, none⟩), .pointer (some ⟨rb, 0, none⟩)], .agg #[.int .i64 kd, .int .i64 key, .string txt]] w0 (Blk sb (.cells [Value.int .i64 room, .map (some m), .pointer (fstP (xs) none), .pointer (lstP (xs) none)].toArray 79 (0, 0)) :: Seg 106 none (xs) none :: MapI m kv :: Blk rb (.cells [Value.int .i64 room, .slice ka L.length kc, .slice va L.length vc].toArray 58 (0, 0)) :: Own 9 1 (.slice ka L.length kc) L.length (strs (k1 L)) :: Own 9 1 (.slice va L.length vc) L.length (strs (k2 L)) :: F) (Gives w0 fun v F2 => ∃ y lv L1 ka1 va1 kc1 vc1, v = .bool true ∧ Both room lv y L1 ka1 va1 ∧ HK (prs y) ∧ F2 = Blk sb (.cells [Value.int .i64 room, .map (some m), .pointer (fstP (y) none), .pointer (lstP (y) none)].toArray 79 (0, 0)) :: Seg 106 none (y) none :: MapI m lv :: Blk rb (.cells [Value.int .i64 room, .slice ka1 L1.length kc1, .slice va1 L1.length vc1].toArray 58 (0, 0)) :: Own 9 1 (.slice ka1 L1.length kc1) L1.length (strs (k1 L1)) :: Own 9 1 (.slice va1 L1.length vc1) L1.length (strs (k2 L1)) :: F) := by
  have hB0 := hB
  obtain ⟨hS, hV, hl, hL, hk, hv⟩ := hB
  have hll := both_len hL
  have hnd := both_nodup hS hL
  refine c_enter Tryd.func15 rfl rfl rfl ?_
  refine g_seq ?_
  refine g_region ?_
  refine l_boxs rfl rfl ?_; intro b2
  refine l_boxs rfl rfl ?_; intro b3
  refine l_assign rfl rfl ?_
  refine l_nil ?_
  refine g_seq ?_
  refine g_seq ?_
  refine g_region ?_
  refine l_fieldAddr rfl fa_37_0 rfl ?_
  first | refine l_ld rfl Tryd.isAgg3 rfl rfl ?_ | refine l_ldw rfl Tryd.isAgg3 rfl (by omega) ?_
  refine l_nil ?_
  refine g_block ?_
  refine g_seq ?_
  refine g_region ?_
  refine l_eql rfl rfl rfl ?_
  refine l_assign rfl rfl ?_
  refine l_nil ?_
  refine g_cond rfl ?_ ?_
  · intro hbr
    have hbr := of_decide_eq_true hbr
    refine g_seq ?_
    refine g_region ?_
    refine l_fieldAddr rfl fa_46_0 rfl ?_
    refine l_ld rfl Tryd.isAgg42 rfl rfl ?_
    refine l_fieldAddr rfl fa_37_1 rfl ?_
    first | refine l_ld rfl Tryd.isAgg3 rfl rfl ?_ | refine l_ldw rfl Tryd.isAgg3 rfl (by omega) ?_
    refine l_fieldAddr rfl fa_37_2 rfl ?_
    refine l_ld rfl Tryd.isAgg9 rfl rfl ?_
    refine gl_heap (F' := Blk sb (.cells [Value.int .i64 room, .map (some m), .pointer (fstP (xs) none), .pointer (lstP (xs) none)].toArray 79 (0, 0)) :: Seg 106 none (xs) none :: MapI m kv :: Blk rb (.cells [Value.int .i64 room, .slice ka L.length kc, .slice va L.length vc].toArray 58 (0, 0)) :: Own 9 1 (.slice ka L.length kc) L.length (strs (k1 L)) :: Own 9 1 (.slice va L.length vc) L.length (strs (k2 L)) :: Blk b2 (.cells [Value.pointer (some ⟨sb, 0, none⟩), .pointer (some ⟨rb, 0, none⟩)].toArray 46 (0, 0)) :: Blk b3 (.cells [Value.int .i64 kd, .int .i64 key, .string txt].toArray 37 (0, 0)) :: F) (fun w hw => SPI.holds hw) ?_
    refine l_call rfl Tryd.call39 rfl (put_any _ _ sb m room kv xs hS hV key txt hr1) ?_; rintro _ _ ⟨y, lv, rfl, hS2, hV2, hQ2, rfl⟩
    obtain ⟨gq, hgq⟩ : ∃ g, goneG room (prs xs) key = g := ⟨_, rfl⟩
    rw [hgq]
    refine l_move rfl rfl ?_
    refine l_extract rfl rfl rfl ?_
    refine l_extract rfl rfl rfl ?_
    refine l_assign rfl rfl ?_
    refine l_assign rfl rfl ?_
    refine l_nil ?_
    refine g_seq ?_
    refine gp_start mo (by kernel_rfl) (by kernel_rfl) ?_
    refine gp_quiet 0 rfl rfl rfl rfl rfl rfl (q_fieldAddr fa_46_1 rfl) ?_
    refine gp_quiet 1 rfl rfl rfl rfl rfl rfl (q_ld Tryd.isAgg32 rfl rfl) ?_
    refine gp_quiet 2 rfl rfl rfl rfl rfl rfl (q_fieldAddr fa_37_1 rfl) ?_
    first | refine gp_quiet 3 rfl rfl rfl rfl rfl rfl (q_ld Tryd.isAgg3 rfl rfl) ?_ | refine gp_quiet 3 rfl rfl rfl rfl rfl rfl (q_ldw Tryd.isAgg3 rfl (by omega)) ?_
    refine gp_quiet 5 rfl rfl rfl rfl rfl rfl (q_fieldAddr fa_37_2 rfl) ?_
    refine gp_quiet 6 rfl rfl rfl rfl rfl rfl (q_ld Tryd.isAgg9 rfl rfl) ?_
    refine gp_effa 4 [3] [6, 5, 2, 1, 0] rfl rfl rfl rfl rfl rfl rfl (does_call Tryd.call24 rfl (key_ok _ _ key ho hT.ex)) ?_
    rintro _ _ ⟨rfl, rfl⟩
    refine ⟨?_, ?_⟩
    · refine .cons rfl rfl rfl rfl rfl (q_ld Tryd.isAgg9 rfl rfl) ?_
      refine .cons rfl rfl rfl rfl rfl (q_fieldAddr fa_37_2 rfl) ?_
      refine .cons rfl rfl rfl rfl rfl (q_fieldAddr fa_37_1 rfl) ?_
      refine .cons rfl rfl rfl rfl rfl (q_ld Tryd.isAgg32 rfl rfl) ?_
      refine .cons rfl rfl rfl rfl rfl (q_fieldAddr fa_46_1 rfl) ?_
      exact .nil
    refine gp_take (Own 9 1 (.slice va L.length vc) L.length (strs (k2 L))) ?_
    refine gp_take (Own 9 1 (.slice ka L.length kc) L.length (strs (k1 L))) ?_
    refine gp_take (Blk rb (.cells [Value.int .i64 room, .slice ka L.length kc, .slice va L.length vc].toArray 58 (0, 0))) ?_
    refine gp_effa 7 [1, 6] [5, 2, 0] rfl rfl rfl rfl rfl rfl rfl (does_call Tryd.call26 rfl (rput_ok _ _ rb room L ka va kc vc hk hv (by omega) hnd (keyT key) txt hr1)) ?_
    rintro _ _ ⟨ka1, va1, kc1, vc1, hk1, hv1, rfl, rfl⟩
    rw [both_gone hL, hgq, Option.isSome_map]
    refine ⟨?_, ?_⟩
    · refine .cons rfl rfl rfl rfl rfl (q_fieldAddr fa_37_2 rfl) ?_
      refine .cons rfl rfl rfl rfl rfl (q_fieldAddr fa_37_1 rfl) ?_
      refine .cons rfl rfl rfl rfl rfl (q_fieldAddr fa_46_1 rfl) ?_
      exact .nil
    refine gp_quiet 8 rfl rfl rfl rfl rfl rfl (q_move rfl) ?_
    refine gp_quiet 9 rfl rfl rfl rfl rfl rfl (q_extract rfl rfl) ?_
    refine gp_quiet 10 rfl rfl rfl rfl rfl rfl (q_extract rfl rfl) ?_
    refine gp_quiet 11 rfl rfl rfl rfl rfl rfl (q_assign rfl) ?_
    refine gp_quiet 12 rfl rfl rfl rfl rfl rfl (q_assign rfl) ?_
    refine gp_end rfl rfl ?_
    refine g_seq ?_
    refine g_seq ?_
    refine g_region ?_
    refine l_move rfl rfl ?_
    refine l_not rfl rfl ?_
    refine l_nil ?_
    refine g_cond rfl ?_ ?_
    · intro hbr
      have hb43 := hbr
      refine g_seq ?_
      refine g_region ?_
      refine l_move rfl rfl ?_
      refine l_not rfl rfl ?_
      refine l_move rfl rfl ?_
      refine l_split 46 rfl ?_ ?_
      · intro hbr
        have hb46 := hbr
        refine l_guard_yes rfl rfl ?_
        refine l_move rfl rfl ?_
        refine l_guard_yes rfl rfl ?_
        refine l_eql rfl rfl rfl ?_
        refine l_pick_t rfl rfl rfl ?_
        refine l_assign rfl rfl ?_
        refine l_nil ?_
        refine g_ret Tryd.func15 rfl (.tmp rfl .nil) ?_
        exact Gives.mki ⟨y, lv, _, ka1, va1, kc1, vc1, by (cases gq <;> simp_all [resVal]), hB0.put hr1 hS2 hV2 hQ2 hk1 hv1, by rw [hQ2]; exact hK.put _ ho _, rfl⟩
      · intro hbr
        first | (exfalso; simp at hbr; done) | (exfalso; simp at hbr; omega) | (exfalso; first | omega | (simp at hbr; done) | (simp_all; done))
    intro hbr
    have hb43 := hbr
    refine g_skip ?_
    refine g_seq ?_
    refine g_region ?_
    refine l_move rfl rfl ?_
    refine l_move rfl rfl ?_
    refine l_split 51 rfl ?_ ?_
    · intro hbr
      have hb51 := hbr
      refine l_guard_yes rfl rfl ?_
      refine l_move rfl rfl ?_
      refine l_guard_yes rfl rfl ?_
      refine l_call rfl Tryd.call24 rfl (key_ok _ _ (gq.getD 0) (by obtain ⟨q, hq⟩ := Option.isSome_iff_exists.1 hbr; rw [hq]; exact gone_key hK (hgq.trans hq)) hT.ex) ?_; rintro _ _ ⟨rfl, rfl⟩
      refine l_guard_yes rfl rfl ?_
      refine l_move rfl rfl ?_
      refine l_guard_yes rfl rfl ?_
      refine l_eqls rfl rfl rfl ?_
      refine l_pick_t rfl rfl rfl ?_
      refine l_assign rfl rfl ?_
      refine l_nil ?_
      refine g_ret Tryd.func15 rfl (.tmp rfl .nil) ?_
      exact Gives.mki ⟨y, lv, _, ka1, va1, kc1, vc1, by (cases gq <;> simp_all [resVal]), hB0.put hr1 hS2 hV2 hQ2 hk1 hv1, by rw [hQ2]; exact hK.put _ ho _, rfl⟩
    · intro hbr
      first | (exfalso; simp at hbr; done) | (exfalso; simp at hbr; omega) | (exfalso; first | omega | (simp at hbr; done) | (simp_all; done))
  intro hbr
  have hbr := of_decide_eq_false hbr
  refine g_seq ?_
  refine g_region ?_
  refine l_eql rfl rfl rfl ?_
  refine l_assign rfl rfl ?_
  refine l_nil ?_
  refine g_cond rfl ?_ ?_
  · intro hbr
    have hbr := of_decide_eq_true hbr
    refine g_seq ?_
    refine g_region ?_
    refine l_fieldAddr rfl fa_46_0 rfl ?_
    refine l_ld rfl Tryd.isAgg42 rfl rfl ?_
    refine l_fieldAddr rfl fa_37_1 rfl ?_
    first | refine l_ld rfl Tryd.isAgg3 rfl rfl ?_ | refine l_ldw rfl Tryd.isAgg3 rfl (by omega) ?_
    refine gl_heap (F' := Blk sb (.cells [Value.int .i64 room, .map (some m), .pointer (fstP (xs) none), .pointer (lstP (xs) none)].toArray 79 (0, 0)) :: Seg 106 none (xs) none :: MapI m kv :: Blk rb (.cells [Value.int .i64 room, .slice ka L.length kc, .slice va L.length vc].toArray 58 (0, 0)) :: Own 9 1 (.slice ka L.length kc) L.length (strs (k1 L)) :: Own 9 1 (.slice va L.length vc) L.length (strs (k2 L)) :: Blk b2 (.cells [Value.pointer (some ⟨sb, 0, none⟩), .pointer (some ⟨rb, 0, none⟩)].toArray 46 (0, 0)) :: Blk b3 (.cells [Value.int .i64 kd, .int .i64 key, .string txt].toArray 37 (0, 0)) :: F) (fun w hw => SPI.holds hw) ?_
    refine l_call rfl Tryd.call40 rfl (get_any _ _ sb m room kv xs hS hV key) ?_; rintro _ _ ⟨y, rfl, hS2, hV2, hQ2, rfl⟩
    refine l_move rfl rfl ?_
    refine l_extract rfl rfl rfl ?_
    refine l_extract rfl rfl rfl ?_
    refine l_assign rfl rfl ?_
    refine l_assign rfl rfl ?_
    refine l_nil ?_
    refine g_seq ?_
    refine gp_start mo (by kernel_rfl) (by kernel_rfl) ?_
    refine gp_quiet 0 rfl rfl rfl rfl rfl rfl (q_fieldAddr fa_46_1 rfl) ?_
    refine gp_quiet 1 rfl rfl rfl rfl rfl rfl (q_ld Tryd.isAgg32 rfl rfl) ?_
    refine gp_quiet 2 rfl rfl rfl rfl rfl rfl (q_fieldAddr fa_37_1 rfl) ?_
    first | refine gp_quiet 3 rfl rfl rfl rfl rfl rfl (q_ld Tryd.isAgg3 rfl rfl) ?_ | refine gp_quiet 3 rfl rfl rfl rfl rfl rfl (q_ldw Tryd.isAgg3 rfl (by omega)) ?_
    refine gp_effa 4 [3] [2, 1, 0] rfl rfl rfl rfl rfl rfl rfl (does_call Tryd.call24 rfl (key_ok _ _ key ho hT.ex)) ?_
    rintro _ _ ⟨rfl, rfl⟩
    refine ⟨?_, ?_⟩
    · refine .cons rfl rfl rfl rfl rfl (q_fieldAddr fa_37_1 rfl) ?_
      refine .cons rfl rfl rfl rfl rfl (q_ld Tryd.isAgg32 rfl rfl) ?_
      refine .cons rfl rfl rfl rfl rfl (q_fieldAddr fa_46_1 rfl) ?_
      exact .nil
    refine gp_take (Own 9 1 (.slice va L.length vc) L.length (strs (k2 L))) ?_
    refine gp_take (Own 9 1 (.slice ka L.length kc) L.length (strs (k1 L))) ?_
    refine gp_take (Blk rb (.cells [Value.int .i64 room, .slice ka L.length kc, .slice va L.length vc].toArray 58 (0, 0))) ?_
    refine gp_effa 5 [1] [2, 0] rfl rfl rfl rfl rfl rfl rfl (does_call Tryd.call28 rfl (rget_ok _ _ rb room L ka va kc vc hk hv (by omega) hnd (keyT key) hr1)) ?_
    rintro _ _ ⟨ka1, va1, kc1, vc1, hk1, hv1, rfl, rfl⟩
    rw [both_val hL, both_has hL]
    refine ⟨?_, ?_⟩
    · refine .cons rfl rfl rfl rfl rfl (q_fieldAddr fa_37_1 rfl) ?_
      refine .cons rfl rfl rfl rfl rfl (q_fieldAddr fa_46_1 rfl) ?_
      exact .nil
    refine gp_quiet 6 rfl rfl rfl rfl rfl rfl (q_move rfl) ?_
    refine gp_quiet 7 rfl rfl rfl rfl rfl rfl (q_extract rfl rfl) ?_
    refine gp_quiet 8 rfl rfl rfl rfl rfl rfl (q_extract rfl rfl) ?_
    refine gp_quiet 9 rfl rfl rfl rfl rfl rfl (q_assign rfl) ?_
    refine gp_quiet 10 rfl rfl rfl rfl rfl rfl (q_assign rfl) ?_
    refine gp_end rfl rfl ?_
    refine g_seq ?_
    refine g_region ?_
    refine l_move rfl rfl ?_
    refine l_move rfl rfl ?_
    refine l_eqls rfl rfl rfl ?_
    refine l_move rfl rfl ?_
    refine l_split 79 rfl ?_ ?_
    · intro hbr
      have hb79 := hbr
      refine l_guard_yes rfl rfl ?_
      refine l_move rfl rfl ?_
      refine l_guard_yes rfl rfl ?_
      refine l_move rfl rfl ?_
      refine l_guard_yes rfl rfl ?_
      refine l_eqlb rfl Tryd.underlying4 rfl rfl ?_
      refine l_pick_t rfl rfl rfl ?_
      refine l_assign rfl rfl ?_
      refine l_nil ?_
      refine g_ret Tryd.func15 rfl (.tmp rfl .nil) ?_
      exact Gives.mki ⟨y, kv, _, ka1, va1, kc1, vc1, by simp [resVal], hB0.get hS2 hV2 hQ2 hk1 hv1, by rw [hQ2]; exact hK.get ho _, rfl⟩
    · intro hbr
      first | (exfalso; simp at hbr; done) | (exfalso; simp at hbr; omega) | (exfalso; first | omega | (simp at hbr; done) | (simp_all; done))
  intro hbr
  have hbr := of_decide_eq_false hbr
  refine g_seq ?_
  refine g_region ?_
  refine l_eql rfl rfl rfl ?_
  refine l_assign rfl rfl ?_
  refine l_nil ?_
  refine g_cond rfl ?_ ?_
  · intro hbr
    have hbr := of_decide_eq_true hbr
    refine g_seq ?_
    refine g_region ?_
    refine l_fieldAddr rfl fa_46_0 rfl ?_
    refine l_ld rfl Tryd.isAgg42 rfl rfl ?_
    refine l_fieldAddr rfl fa_37_1 rfl ?_
    first | refine l_ld rfl Tryd.isAgg3 rfl rfl ?_ | refine l_ldw rfl Tryd.isAgg3 rfl (by omega) ?_
    refine gl_heap (F' := Blk sb (.cells [Value.int .i64 room, .map (some m), .pointer (fstP (xs) none), .pointer (lstP (xs) none)].toArray 79 (0, 0)) :: Seg 106 none (xs) none :: MapI m kv :: Blk rb (.cells [Value.int .i64 room, .slice ka L.length kc, .slice va L.length vc].toArray 58 (0, 0)) :: Own 9 1 (.slice ka L.length kc) L.length (strs (k1 L)) :: Own 9 1 (.slice va L.length vc) L.length (strs (k2 L)) :: Blk b2 (.cells [Value.pointer (some ⟨sb, 0, none⟩), .pointer (some ⟨rb, 0, none⟩)].toArray 46 (0, 0)) :: Blk b3 (.cells [Value.int .i64 kd, .int .i64 key, .string txt].toArray 37 (0, 0)) :: F) (fun w hw => SPI.holds hw) ?_
    refine l_call rfl Tryd.call41 rfl (peek_any _ _ sb m room kv xs hS hV key) ?_; rintro _ _ ⟨rfl, rfl⟩
    refine l_move rfl rfl ?_
    refine l_extract rfl rfl rfl ?_
    refine l_extract rfl rfl rfl ?_
    refine l_assign rfl rfl ?_
    refine l_assign rfl rfl ?_
    refine l_nil ?_
    refine g_seq ?_
    refine gp_start mo (by kernel_rfl) (by kernel_rfl) ?_
    refine gp_quiet 0 rfl rfl rfl rfl rfl rfl (q_fieldAddr fa_46_1 rfl) ?_
    refine gp_quiet 1 rfl rfl rfl rfl rfl rfl (q_ld Tryd.isAgg32 rfl rfl) ?_
    refine gp_quiet 2 rfl rfl rfl rfl rfl rfl (q_fieldAddr fa_37_1 rfl) ?_
    first | refine gp_quiet 3 rfl rfl rfl rfl rfl rfl (q_ld Tryd.isAgg3 rfl rfl) ?_ | refine gp_quiet 3 rfl rfl rfl rfl rfl rfl (q_ldw Tryd.isAgg3 rfl (by omega)) ?_
    refine gp_effa 4 [3] [2, 1, 0] rfl rfl rfl rfl rfl rfl rfl (does_call Tryd.call24 rfl (key_ok _ _ key ho hT.ex)) ?_
    rintro _ _ ⟨rfl, rfl⟩
    refine ⟨?_, ?_⟩
    · refine .cons rfl rfl rfl rfl rfl (q_fieldAddr fa_37_1 rfl) ?_
      refine .cons rfl rfl rfl rfl rfl (q_ld Tryd.isAgg32 rfl rfl) ?_
      refine .cons rfl rfl rfl rfl rfl (q_fieldAddr fa_46_1 rfl) ?_
      exact .nil
    refine gp_take (Own 9 1 (.slice va L.length vc) L.length (strs (k2 L))) ?_
    refine gp_take (Own 9 1 (.slice ka L.length kc) L.length (strs (k1 L))) ?_
    refine gp_take (Blk rb (.cells [Value.int .i64 room, .slice ka L.length kc, .slice va L.length vc].toArray 58 (0, 0))) ?_
    refine gp_effa 5 [1] [2, 0] rfl rfl rfl rfl rfl rfl rfl (does_call Tryd.call30 rfl (rpeek_ok _ _ rb room L ka va kc vc hk hv (by omega) hnd (keyT key))) ?_
    rintro _ _ ⟨rfl, rfl⟩
    rw [both_val hL, both_has hL]
    refine ⟨?_, ?_⟩
    · refine .cons rfl rfl rfl rfl rfl (q_fieldAddr fa_37_1 rfl) ?_
      refine .cons rfl rfl rfl rfl rfl (q_fieldAddr fa_46_1 rfl) ?_
      exact .nil
    refine gp_quiet 6 rfl rfl rfl rfl rfl rfl (q_move rfl) ?_
    refine gp_quiet 7 rfl rfl rfl rfl rfl rfl (q_extract rfl rfl) ?_
    refine gp_quiet 8 rfl rfl rfl rfl rfl rfl (q_extract rfl rfl) ?_
    refine gp_quiet 9 rfl rfl rfl rfl rfl rfl (q_assign rfl) ?_
    refine gp_quiet 10 rfl rfl rfl rfl rfl rfl (q_assign rfl) ?_
    refine gp_end rfl rfl ?_
    refine g_seq ?_
    refine g_region ?_
    refine l_move rfl rfl ?_
    refine l_move rfl rfl ?_
    refine l_eqls rfl rfl rfl ?_
    refine l_move rfl rfl ?_
    refine l_split 106 rfl ?_ ?_
    · intro hbr
      have hb106 := hbr
      refine l_guard_yes rfl rfl ?_
      refine l_move rfl rfl ?_
      refine l_guard_yes rfl rfl ?_
      refine l_move rfl rfl ?_
      refine l_guard_yes rfl rfl ?_
      refine l_eqlb rfl Tryd.underlying4 rfl rfl ?_
      refine l_pick_t rfl rfl rfl ?_
      refine l_assign rfl rfl ?_
      refine l_nil ?_
      refine g_ret Tryd.func15 rfl (.tmp rfl .nil) ?_
      exact Gives.mki ⟨xs, kv, L, ka, va, kc, vc, by simp [resVal], hB0, hK, rfl⟩
    · intro hbr
      first | (exfalso; simp at hbr; done) | (exfalso; simp at hbr; omega) | (exfalso; first | omega | (simp at hbr; done) | (simp_all; done))
  intro hbr
  have hbr := of_decide_eq_false hbr
  refine g_seq ?_
  refine g_region ?_
  refine l_eql rfl rfl rfl ?_
  refine l_assign rfl rfl ?_
  refine l_nil ?_
  refine g_cond rfl ?_ ?_
  · intro hbr
    have hbr := of_decide_eq_true hbr
    refine g_seq ?_
    refine gp_start mo (by kernel_rfl) (by kernel_rfl) ?_
    refine gp_quiet 0 rfl rfl rfl rfl rfl rfl (q_fieldAddr fa_46_0 rfl) ?_
    refine gp_quiet 1 rfl rfl rfl rfl rfl rfl (q_ld Tryd.isAgg42 rfl rfl) ?_
    refine gp_quiet 2 rfl rfl rfl rfl rfl rfl (q_fieldAddr fa_37_1 rfl) ?_
    first | refine gp_quiet 3 rfl rfl rfl rfl rfl rfl (q_ld Tryd.isAgg3 rfl rfl) ?_ | refine gp_quiet 3 rfl rfl rfl rfl rfl rfl (q_ldw Tryd.isAgg3 rfl (by omega)) ?_
    refine gp_quiet 5 rfl rfl rfl rfl rfl rfl (q_fieldAddr fa_46_1 rfl) ?_
    refine gp_quiet 6 rfl rfl rfl rfl rfl rfl (q_ld Tryd.isAgg32 rfl rfl) ?_
    refine gp_quiet 7 rfl rfl rfl rfl rfl rfl (q_fieldAddr fa_37_1 rfl) ?_
    first | refine gp_quiet 8 rfl rfl rfl rfl rfl rfl (q_ld Tryd.isAgg3 rfl rfl) ?_ | refine gp_quiet 8 rfl rfl rfl rfl rfl rfl (q_ldw Tryd.isAgg3 rfl (by omega)) ?_
    refine gp_take (MapI m kv) ?_
    refine gp_take (Seg 106 none (xs) none) ?_
    refine gp_take (Blk sb (.cells [Value.int .i64 room, .map (some m), .pointer (fstP (xs) none), .pointer (lstP (xs) none)].toArray 79 (0, 0))) ?_
    refine gp_effa 4 [1, 3] [8, 7, 6, 5, 2, 0] rfl rfl rfl rfl rfl rfl rfl (does_call Tryd.call42 rfl (drop_any _ _ sb m room kv xs hS hV key)) ?_
    rintro _ _ ⟨y, lv, rfl, hS2, hV2, hQ2, rfl⟩
    refine ⟨?_, ?_⟩
    · first | refine .cons rfl rfl rfl rfl rfl (q_ld Tryd.isAgg3 rfl rfl) ?_ | refine .cons rfl rfl rfl rfl rfl (q_ldw Tryd.isAgg3 rfl (by omega)) ?_
      refine .cons rfl rfl rfl rfl rfl (q_fieldAddr fa_37_1 rfl) ?_
      refine .cons rfl rfl rfl rfl rfl (q_ld Tryd.isAgg32 rfl rfl) ?_
      refine .cons rfl rfl rfl rfl rfl (q_fieldAddr fa_46_1 rfl) ?_
      refine .cons rfl rfl rfl rfl rfl (q_fieldAddr fa_37_1 rfl) ?_
      refine .cons rfl rfl rfl rfl rfl (q_fieldAddr fa_46_0 rfl) ?_
      exact .nil
    refine gp_effa 9 [8] [7, 6, 5, 2, 0] rfl rfl rfl rfl rfl rfl rfl (does_call Tryd.call24 rfl (key_ok _ _ key ho hT.ex)) ?_
    rintro _ _ ⟨rfl, rfl⟩
    refine ⟨?_, ?_⟩
    · refine .cons rfl rfl rfl rfl rfl (q_fieldAddr fa_37_1 rfl) ?_
      refine .cons rfl rfl rfl rfl rfl (q_ld Tryd.isAgg32 rfl rfl) ?_
      refine .cons rfl rfl rfl rfl rfl (q_fieldAddr fa_46_1 rfl) ?_
      refine .cons rfl rfl rfl rfl rfl (q_fieldAddr fa_37_1 rfl) ?_
      refine .cons rfl rfl rfl rfl rfl (q_fieldAddr fa_46_0 rfl) ?_
      exact .nil
    refine gp_take (Own 9 1 (.slice va L.length vc) L.length (strs (k2 L))) ?_
    refine gp_take (Own 9 1 (.slice ka L.length kc) L.length (strs (k1 L))) ?_
    refine gp_take (Blk rb (.cells [Value.int .i64 room, .slice ka L.length kc, .slice va L.length vc].toArray 58 (0, 0))) ?_
    refine gp_effa 10 [6] [7, 5, 2, 0] rfl rfl rfl rfl rfl rfl rfl (does_call Tryd.call32 rfl (rdrop_ok _ _ rb room L ka va kc vc hk hv (by omega) hnd (keyT key))) ?_
    rintro _ _ ⟨ka1, va1, kc1, vc1, hk1, hv1, rfl, rfl⟩
    rw [both_has hL]
    refine ⟨?_, ?_⟩
    · refine .cons rfl rfl rfl rfl rfl (q_fieldAddr fa_37_1 rfl) ?_
      refine .cons rfl rfl rfl rfl rfl (q_fieldAddr fa_46_1 rfl) ?_
      refine .cons rfl rfl rfl rfl rfl (q_fieldAddr fa_37_1 rfl) ?_
      refine .cons rfl rfl rfl rfl rfl (q_fieldAddr fa_46_0 rfl) ?_
      exact .nil
    refine gp_quiet 11 rfl rfl rfl rfl rfl rfl (q_eqlb Tryd.underlying4 rfl rfl) ?_
    refine gp_quiet 12 rfl rfl rfl rfl rfl rfl (q_assign rfl) ?_
    refine gp_end rfl rfl ?_
    refine g_ret Tryd.func15 rfl (.tmp rfl .nil) ?_
    exact Gives.mki ⟨y, lv, _, ka1, va1, kc1, vc1, by simp [resVal], hB0.drop hS2 hV2 hQ2 hk1 hv1, by rw [hQ2]; exact hK.del _, rfl⟩
  intro hbr
  have hbr := of_decide_eq_false hbr
  refine g_seq ?_
  refine g_region ?_
  refine l_eql rfl rfl rfl ?_
  refine l_assign rfl rfl ?_
  refine l_nil ?_
  refine g_cond rfl ?_ ?_
  · intro hbr
    have hbr := of_decide_eq_true hbr
    refine g_seq ?_
    refine g_region ?_
    refine l_fieldAddr rfl fa_46_0 rfl ?_
    refine l_ld rfl Tryd.isAgg42 rfl rfl ?_
    refine gl_heap (F' := Blk sb (.cells [Value.int .i64 room, .map (some m), .pointer (fstP (xs) none), .pointer (lstP (xs) none)].toArray 79 (0, 0)) :: Seg 106 none (xs) none :: MapI m kv :: Blk rb (.cells [Value.int .i64 room, .slice ka L.length kc, .slice va L.length vc].toArray 58 (0, 0)) :: Own 9 1 (.slice ka L.length kc) L.length (strs (k1 L)) :: Own 9 1 (.slice va L.length vc) L.length (strs (k2 L)) :: Blk b2 (.cells [Value.pointer (some ⟨sb, 0, none⟩), .pointer (some ⟨rb, 0, none⟩)].toArray 46 (0, 0)) :: Blk b3 (.cells [Value.int .i64 kd, .int .i64 key, .string txt].toArray 37 (0, 0)) :: F) (fun w hw => SPI.holds hw) ?_
    refine l_call rfl Tryd.call43 rfl (clear_ok _ _ sb m room kv xs hS) ?_; rintro _ _ rfl
    refine l_nil ?_
    refine g_region ?_
    refine l_fieldAddr rfl fa_46_1 rfl ?_
    refine l_ld rfl Tryd.isAgg32 rfl rfl ?_
    refine gl_heap (F' := Blk rb (.cells [Value.int .i64 room, .slice ka L.length kc, .slice va L.length vc].toArray 58 (0, 0)) :: Blk sb (.cells [Value.int .i64 room, .map (some m), .pointer (fstP ([]) none), .pointer (lstP ([]) none)].toArray 79 (0, 0)) :: Seg 106 none ([]) none :: MapI m [] :: Blk b2 (.cells [Value.pointer (some ⟨sb, 0, none⟩), .pointer (some ⟨rb, 0, none⟩)].toArray 46 (0, 0)) :: Blk b3 (.cells [Value.int .i64 kd, .int .i64 key, .string txt].toArray 37 (0, 0)) :: F) (fun w hw => SPI.holds hw) ?_
    refine l_call rfl Tryd.call34 rfl (rclear_ok _ _ rb room (.slice ka L.length kc) (.slice va L.length vc)) ?_; rintro _ _ rfl
    refine gl_heap (F' := Blk rb (.cells [Value.int .i64 room, .slice none ([] : List (ByteArray × ByteArray)).length 0, .slice none ([] : List (ByteArray × ByteArray)).length 0].toArray 58 (0, 0)) :: Own 9 1 (.slice none ([] : List (ByteArray × ByteArray)).length 0) ([] : List (ByteArray × ByteArray)).length (strs (k1 ([] : List (ByteArray × ByteArray)))) :: Own 9 1 (.slice none ([] : List (ByteArray × ByteArray)).length 0) ([] : List (ByteArray × ByteArray)).length (strs (k2 ([] : List (ByteArray × ByteArray)))) :: Blk sb (.cells [Value.int .i64 room, .map (some m), .pointer (fstP ([]) none), .pointer (lstP ([]) none)].toArray 79 (0, 0)) :: Seg 106 none ([]) none :: MapI m [] :: F) (fun w hw => show Holds w0 (Blk rb (.cells [Value.int .i64 room, .slice none 0 0, .slice none 0 0].toArray 58 (0, 0)) :: Own 9 1 (.slice none 0 0) 0 [] :: Own 9 1 (.slice none 0 0) 0 [] :: Blk sb (.cells [Value.int .i64 room, .map (some m), .pointer (fstP ([]) none), .pointer (lstP ([]) none)].toArray 79 (0, 0)) :: Seg 106 none ([]) none :: MapI m [] :: F) w from SPI.holds (show Holds w0 (Blk rb (.cells [Value.int .i64 room, .slice none 0 0, .slice none 0 0].toArray 58 (0, 0)) :: Own 9 1 (.slice none 0 0) 0 [] :: Own 9 1 (.slice none 0 0) 0 [] :: Blk sb (.cells [Value.int .i64 room, .map (some m), .pointer (fstP ([]) none), .pointer (lstP ([]) none)].toArray 79 (0, 0)) :: Seg 106 none ([]) none :: MapI m [] :: Blk b2 (.cells [Value.pointer (some ⟨sb, 0, none⟩), .pointer (some ⟨rb, 0, none⟩)].toArray 46 (0, 0)) :: Blk b3 (.cells [Value.int .i64 kd, .int .i64 key, .string txt].toArray 37 (0, 0)) :: F) w from hw)) ?_
    refine l_nil ?_
    refine g_inBlock ?_
    refine g_seq ?_
    refine g_region ?_
    refine l_assign rfl rfl ?_
    refine l_nil ?_
    refine g_ret Tryd.func15 rfl (.tmp rfl .nil) ?_
    exact Gives.mki ⟨[], [], [], none, none, 0, 0, rfl, Both.nil hr1, HK.nil, rfl⟩
  intro hbr
  have hbr := of_decide_eq_false hbr
  refine g_seq ?_
  refine g_region ?_
  refine l_eql rfl rfl rfl ?_
  refine l_assign rfl rfl ?_
  refine l_nil ?_
  refine g_cond rfl ?_ ?_
  · intro hbr
    have hbr := of_decide_eq_true hbr
    refine g_seq ?_
    refine gp_start mo (by kernel_rfl) (by kernel_rfl) ?_
    refine gp_quiet 0 rfl rfl rfl rfl rfl rfl (q_fieldAddr fa_46_0 rfl) ?_
    refine gp_quiet 1 rfl rfl rfl rfl rfl rfl (q_ld Tryd.isAgg42 rfl rfl) ?_
    refine gp_quiet 3 rfl rfl rfl rfl rfl rfl (q_fieldAddr fa_46_1 rfl) ?_
    refine gp_quiet 4 rfl rfl rfl rfl rfl rfl (q_ld Tryd.isAgg32 rfl rfl) ?_
    refine gp_take (MapI m kv) ?_
    refine gp_take (Seg 106 none (xs) none) ?_
    refine gp_take (Blk sb (.cells [Value.int .i64 room, .map (some m), .pointer (fstP (xs) none), .pointer (lstP (xs) none)].toArray 79 (0, 0))) ?_
    refine gp_effa 2 [1] [4, 3, 0] rfl rfl rfl rfl rfl rfl rfl (does_call Tryd.call18 rfl (room_ok _ _ sb m room kv xs)) ?_
    rintro _ _ ⟨rfl, rfl⟩
    refine ⟨?_, ?_⟩
    · refine .cons rfl rfl rfl rfl rfl (q_ld Tryd.isAgg32 rfl rfl) ?_
      refine .cons rfl rfl rfl rfl rfl (q_fieldAddr fa_46_1 rfl) ?_
      refine .cons rfl rfl rfl rfl rfl (q_fieldAddr fa_46_0 rfl) ?_
      exact .nil
    refine gp_take (Own 9 1 (.slice va L.length vc) L.length (strs (k2 L))) ?_
    refine gp_take (Own 9 1 (.slice ka L.length kc) L.length (strs (k1 L))) ?_
    refine gp_take (Blk rb (.cells [Value.int .i64 room, .slice ka L.length kc, .slice va L.length vc].toArray 58 (0, 0))) ?_
    refine gp_effa 5 [4] [3, 0] rfl rfl rfl rfl rfl rfl rfl (does_call Tryd.call19 rfl (rroom_ok _ _ rb room L ka va kc vc hk hv (by omega))) ?_
    rintro _ _ ⟨rfl, rfl⟩
    refine ⟨?_, ?_⟩
    · refine .cons rfl rfl rfl rfl rfl (q_fieldAddr fa_46_1 rfl) ?_
      refine .cons rfl rfl rfl rfl rfl (q_fieldAddr fa_46_0 rfl) ?_
      exact .nil
    refine gp_quiet 6 rfl rfl rfl rfl rfl rfl (q_eql rfl rfl) ?_
    refine gp_quiet 7 rfl rfl rfl rfl rfl rfl (q_assign rfl) ?_
    refine gp_end rfl rfl ?_
    refine g_ret Tryd.func15 rfl (.tmp rfl .nil) ?_
    exact Gives.mki ⟨xs, kv, L, ka, va, kc, vc, congrArg Value.bool (decide_eq_true rfl), hB0, hK, rfl⟩
  intro hbr
  have hbr := of_decide_eq_false hbr
  refine g_seq ?_
  refine g_region ?_
  refine l_eql rfl rfl rfl ?_
  refine l_assign rfl rfl ?_
  refine l_nil ?_
  refine g_cond rfl ?_ ?_
  · intro hbr
    have hbr := of_decide_eq_true hbr
    refine g_seq ?_
    refine gp_start mo (by kernel_rfl) (by kernel_rfl) ?_
    refine gp_quiet 0 rfl rfl rfl rfl rfl rfl (q_fieldAddr fa_46_0 rfl) ?_
    refine gp_quiet 1 rfl rfl rfl rfl rfl rfl (q_ld Tryd.isAgg42 rfl rfl) ?_
    refine gp_quiet 3 rfl rfl rfl rfl rfl rfl (q_fieldAddr fa_46_1 rfl) ?_
    refine gp_quiet 4 rfl rfl rfl rfl rfl rfl (q_ld Tryd.isAgg32 rfl rfl) ?_
    refine gp_take (MapI m kv) ?_
    refine gp_take (Seg 106 none (xs) none) ?_
    refine gp_take (Blk sb (.cells [Value.int .i64 room, .map (some m), .pointer (fstP (xs) none), .pointer (lstP (xs) none)].toArray 79 (0, 0))) ?_
    refine gp_effa 2 [1] [4, 3, 0] rfl rfl rfl rfl rfl rfl rfl (does_call Tryd.call17 rfl (len_is _ _ sb m room kv xs hS)) ?_
    rintro _ _ ⟨rfl, rfl⟩
    refine ⟨?_, ?_⟩
    · refine .cons rfl rfl rfl rfl rfl (q_ld Tryd.isAgg32 rfl rfl) ?_
      refine .cons rfl rfl rfl rfl rfl (q_fieldAddr fa_46_1 rfl) ?_
      refine .cons rfl rfl rfl rfl rfl (q_fieldAddr fa_46_0 rfl) ?_
      exact .nil
    refine gp_take (Own 9 1 (.slice va L.length vc) L.length (strs (k2 L))) ?_
    refine gp_take (Own 9 1 (.slice ka L.length kc) L.length (strs (k1 L))) ?_
    refine gp_take (Blk rb (.cells [Value.int .i64 room, .slice ka L.length kc, .slice va L.length vc].toArray 58 (0, 0))) ?_
    refine gp_effa 5 [4] [3, 0] rfl rfl rfl rfl rfl rfl rfl (does_call Tryd.call13 rfl (rlen_ok _ _ rb room L ka va kc vc hk hv (by omega))) ?_
    rintro _ _ ⟨rfl, rfl⟩
    refine ⟨?_, ?_⟩
    · refine .cons rfl rfl rfl rfl rfl (q_fieldAddr fa_46_1 rfl) ?_
      refine .cons rfl rfl rfl rfl rfl (q_fieldAddr fa_46_0 rfl) ?_
      exact .nil
    refine gp_quiet 6 rfl rfl rfl rfl rfl rfl (q_eql rfl rfl) ?_
    refine gp_quiet 7 rfl rfl rfl rfl rfl rfl (q_assign rfl) ?_
    refine gp_end rfl rfl ?_
    refine g_ret Tryd.func15 rfl (.tmp rfl .nil) ?_
    exact Gives.mki ⟨xs, kv, L, ka, va, kc, vc, congrArg Value.bool (decide_eq_true (by omega)), hB0, hK, rfl⟩
  intro hbr
  have hbr := of_decide_eq_false hbr
  refine g_seq ?_
  refine g_region ?_
  refine l_eql rfl rfl rfl ?_
  refine l_assign rfl rfl ?_
  refine l_nil ?_
  refine g_cond rfl ?_ ?_
  · intro hbr
    have hbr := of_decide_eq_true hbr
    refine g_seq ?_
    refine g_region ?_
    refine l_lds rfl Tryd.isAgg46 Tryd.sizeOf46 rfl rfl ?_
    refine gl_heap (F' := Blk sb (.cells [Value.int .i64 room, .map (some m), .pointer (fstP (xs) none), .pointer (lstP (xs) none)].toArray 79 (0, 0)) :: Seg 106 none (xs) none :: MapI m kv :: Blk rb (.cells [Value.int .i64 room, .slice ka L.length kc, .slice va L.length vc].toArray 58 (0, 0)) :: Own 9 1 (.slice ka L.length kc) L.length (strs (k1 L)) :: Own 9 1 (.slice va L.length vc) L.length (strs (k2 L)) :: Blk b2 (.cells [Value.pointer (some ⟨sb, 0, none⟩), .pointer (some ⟨rb, 0, none⟩)].toArray 46 (0, 0)) :: Blk b3 (.cells [Value.int .i64 kd, .int .i64 key, .string txt].toArray 37 (0, 0)) :: F) (fun w hw => SPI.holds hw) ?_
    refine l_call rfl Tryd.call16 rfl (all_ok _ _ sb m rb room kv xs L ka va kc vc hB0 hr2 hK.keys hT.ex) ?_; rintro _ _ ⟨rfl, rfl⟩
    refine l_assign rfl rfl ?_
    refine l_nil ?_
    refine g_ret Tryd.func15 rfl (.tmp rfl .nil) ?_
    exact Gives.mki ⟨xs, kv, L, ka, va, kc, vc, rfl, hB0, hK, rfl⟩
  intro hbr
  have hbr := of_decide_eq_false hbr
  refine g_skip ?_
  refine g_inBlock ?_
  refine g_seq ?_
  refine g_region ?_
  refine l_assign rfl rfl ?_
  refine l_nil ?_
  refine g_ret Tryd.func15 rfl (.tmp rfl .nil) ?_
  exact Gives.mki ⟨xs, kv, L, ka, va, kc, vc, rfl, hB0, hK, rfl⟩
end Go.Proofs.YtjfibfbknfeflaaDoor.Fw
