import Derived.Test.YtjfibfbknfeflaaDoorDAny2
import Derived.Test.YtjfibfbknfeflaaDoorDKey
import Derived.Test.YtjfibfbknfeflaaDoorDRef
import Derived.Test.YtjfibfbknfeflaaDoorFw31
import Derived.Lib.ItoaLen
namespace Go.Proofs.YtjfibfbknfeflaaDoor.Fw
open Go Go.Proofs
set_option linter.unusedVariables false
set_option linter.unusedSimpArgs false
set_option maxRecDepth 10000
theorem fa_28_0 (a : Addr) (w : World) : (Instr.fieldAt 28 (.pointer (some a)) 0).run Tryd.prog w = .ok (.pointer (some (a.add 0))) w := by
  simp [Instr.fieldAt, Tryd.runUnderlying28, Instr.sureAddr, fieldPlace, Tryd.sizeOf3, Sem.run_bind, Sem.run_pure]
theorem fa_28_1 (a : Addr) (w : World) : (Instr.fieldAt 28 (.pointer (some a)) 1).run Tryd.prog w = .ok (.pointer (some (a.add 1))) w := by
  simp [Instr.fieldAt, Tryd.runUnderlying28, Instr.sureAddr, fieldPlace, Tryd.sizeOf3, Sem.run_bind, Sem.run_pure]
theorem fa_37_0 (a : Addr) (w : World) : (Instr.fieldAt 37 (.pointer (some a)) 0).run Tryd.prog w = .ok (.pointer (some (a.add 0))) w := by
  simp [Instr.fieldAt, Tryd.runUnderlying37, Instr.sureAddr, fieldPlace, Tryd.sizeOf3, Sem.run_bind, Sem.run_pure]
theorem fa_37_2 (a : Addr) (w : World) : (Instr.fieldAt 37 (.pointer (some a)) 2).run Tryd.prog w = .ok (.pointer (some (a.add 2))) w := by
  simp [Instr.fieldAt, Tryd.runUnderlying37, Instr.sureAddr, fieldPlace, Tryd.sizeOf9, Sem.run_bind, Sem.run_pure]
theorem bd_28_z  (w : World) : (Instr.build 28 #[]).run Tryd.prog w = .ok (.agg #[.int .i64 0, .int .i64 0]) w := by kernel_rfl
def toldP (p : Int × Int) : ByteArray := keyT p.1 ++ ⟨#[44]⟩ ++ keyT p.2
theorem keyT_sz {n : Int} (h : I64 n) : (keyT n).size ≤ 21 := by
  have := Lib.itoa_length_le n h.1 h.2
  show (Lib.itoa n).toArray.size ≤ 21
  simpa using this
theorem comma_sz : (⟨#[44]⟩ : ByteArray).size = 1 := rfl
def BothS (room : Int) (kv : List (ByteArray × Value)) (xs : List NdS) (L : List (ByteArray × ByteArray)) (ka va : Option Addr) : Prop :=
  ShOkS kv xs ∧ (xs.length : Int) ≤ room ∧ L = mp (fun k : ByteArray => k) toldP (pS xs) ∧ (L.length = 0 ∨ ∃ g, ka = some ⟨g, 0, none⟩) ∧ (L.length = 0 ∨ ∃ g, va = some ⟨g, 0, none⟩)
theorem id_inj (a b : ByteArray) (h : (fun k : ByteArray => k) a = (fun k : ByteArray => k) b) : a = b := h
theorem bothS_len {xs : List NdS} {L : List (ByteArray × ByteArray)} (h : L = mp (fun k : ByteArray => k) toldP (pS xs)) : L.length = xs.length := by rw [h, mp_len, pg_len]
theorem bothS_has {xs : List NdS} {L : List (ByteArray × ByteArray)} (h : L = mp (fun k : ByteArray => k) toldP (pS xs)) (k : ByteArray) : hasG L k = hasG (pS xs) k := by
  subst h
  exact hasG_mp (f := fun k : ByteArray => k) id_inj _ _
theorem bothS_val {xs : List NdS} {L : List (ByteArray × ByteArray)} (h : L = mp (fun k : ByteArray => k) toldP (pS xs)) {k : ByteArray} (hc : hasG (pS xs) k = true) : valG ⟨#[]⟩ L k = toldP (valG (0, 0) (pS xs) k) := by
  subst h
  exact valG_mp (f := fun k : ByteArray => k) id_inj _ _ _ _ hc
theorem bothS_gone {room : Int} {xs : List NdS} {L : List (ByteArray × ByteArray)} (h : L = mp (fun k : ByteArray => k) toldP (pS xs)) (k : ByteArray) : goneG room L k = goneG room (pS xs) k := by
  subst h
  refine (goneG_mp (f := fun k : ByteArray => k) id_inj _ _ _).trans ?_
  simp
theorem bothS_nodup {kv : List (ByteArray × Value)} {xs : List NdS} {L : List (ByteArray × ByteArray)} (hS : ShOkS kv xs) (h : L = mp (fun k : ByteArray => k) toldP (pS xs)) : (L.map (·.1)).Nodup := by
  subst h
  have h1 := hS.nd
  have e : (mp (fun k : ByteArray => k) toldP (pS xs)).map (·.1) = xs.map NdS.k := by simp [mp, pg, Function.comp_def]
  rw [e]
  exact h1
def HVS (L : List (ByteArray × (Int × Int))) : Prop := ∀ p ∈ L, I64 p.2.1 ∧ I64 p.2.2
theorem HVS.val {L : List (ByteArray × (Int × Int))} (h : HVS L) (k : ByteArray) : I64 (valG (0, 0) L k).1 ∧ I64 (valG (0, 0) L k).2 := by
  unfold valG
  cases hq : L.find? (fun p => decide (p.1 = k)) with
  | some p => exact h p (List.mem_of_find?_eq_some hq)
  | none => exact ⟨⟨by decide, by decide⟩, ⟨by decide, by decide⟩⟩
theorem HVS.del {L : List (ByteArray × (Int × Int))} (h : HVS L) (k : ByteArray) : HVS (delG L k) := fun p hp => h p (List.mem_filter.1 hp).1
theorem HVS.snoc {L : List (ByteArray × (Int × Int))} (h : HVS L) {k : ByteArray} {v : Int × Int} (hk : I64 v.1 ∧ I64 v.2) : HVS (L ++ [(k, v)]) := fun p hp => by
  rcases List.mem_append.1 hp with hp | hp
  · exact h p hp
  · obtain rfl := List.mem_singleton.1 hp
    exact hk
theorem HVS.put {L : List (ByteArray × (Int × Int))} (h : HVS L) (room : Int) (k : ByteArray) {v : Int × Int} (hk : I64 v.1 ∧ I64 v.2) : HVS (putG room L k v) := by
  unfold putG
  split
  · exact (h.del k).snoc hk
  · split
    · exact HVS.snoc (fun p hp => h p (List.mem_of_mem_drop hp)) hk
    · exact h.snoc hk
theorem HVS.get {L : List (ByteArray × (Int × Int))} (h : HVS L) (k : ByteArray) : HVS (getG (0, 0) L k) := by
  unfold getG
  split
  · exact (h.del k).snoc (h.val k)
  · exact h
theorem HVS.nil : HVS [] := fun p hp => by cases hp
theorem BothS.put {room : Int} {kv lv : List (ByteArray × Value)} {xs y : List NdS} {L : List (ByteArray × ByteArray)} {ka va ka1 va1 : Option Addr} (h : BothS room kv xs L ka va) (hr : 1 ≤ room) {k : ByteArray} {u : Int × Int} (hS : ShOkS lv y) (hQ : pS y = putG room (pS xs) k u) (h1 : (putG room L k (toldP u)).length = 0 ∨ ∃ g, ka1 = some ⟨g, 0, none⟩) (h2 : (putG room L k (toldP u)).length = 0 ∨ ∃ g, va1 = some ⟨g, 0, none⟩) : BothS room lv y (putG room L k (toldP u)) ka1 va1 := by
  refine ⟨hS, ?_, ?_, h1, h2⟩
  · rw [← pS_len, hQ]
    exact putG_len hr (by rw [pS_len]; exact h.2.1)
  · rw [h.2.2.1, hQ]
    exact putG_mp (f := fun k : ByteArray => k) (g := toldP) id_inj _ _ _ _
theorem BothS.get {room : Int} {kv lv : List (ByteArray × Value)} {xs y : List NdS} {L : List (ByteArray × ByteArray)} {ka va ka1 va1 : Option Addr} (h : BothS room kv xs L ka va) {k : ByteArray} (hS : ShOkS lv y) (hQ : pS y = getG (0, 0) (pS xs) k) (h1 : (getG ⟨#[]⟩ L k).length = 0 ∨ ∃ g, ka1 = some ⟨g, 0, none⟩) (h2 : (getG ⟨#[]⟩ L k).length = 0 ∨ ∃ g, va1 = some ⟨g, 0, none⟩) : BothS room lv y (getG ⟨#[]⟩ L k) ka1 va1 := by
  refine ⟨hS, ?_, ?_, h1, h2⟩
  · rw [← pS_len, hQ]
    exact getG_len (by rw [pS_len]; exact h.2.1)
  · rw [h.2.2.1, hQ]
    exact getG_mp (f := fun k : ByteArray => k) (g := toldP) id_inj _ _ _ _
theorem BothS.drop {room : Int} {kv lv : List (ByteArray × Value)} {xs y : List NdS} {L : List (ByteArray × ByteArray)} {ka va ka1 va1 : Option Addr} (h : BothS room kv xs L ka va) {k : ByteArray} (hS : ShOkS lv y) (hQ : pS y = delG (pS xs) k) (h1 : (delG L k).length = 0 ∨ ∃ g, ka1 = some ⟨g, 0, none⟩) (h2 : (delG L k).length = 0 ∨ ∃ g, va1 = some ⟨g, 0, none⟩) : BothS room lv y (delG L k) ka1 va1 := by
  refine ⟨hS, ?_, ?_, h1, h2⟩
  · rw [← pS_len, hQ]
    have := delG_le (pS xs) k
    rw [pS_len] at this
    have := h.2.1
    omega
  · rw [h.2.2.1, hQ]
    exact delG_mp (f := fun k : ByteArray => k) (g := toldP) id_inj _ _
theorem BothS.nil {room : Int} (hr : 1 ≤ room) : BothS room [] [] [] none none := ⟨ShOkS.nil, by simp only [List.length_nil]; omega, rfl, Or.inl rfl, Or.inl rfl⟩
section
variable {κ β : Type} [DecidableEq κ]
theorem putG_has {room : Int} {L : List (κ × β)} {k : κ} {v : β} : hasG (putG room L k v) k = true := by
  unfold putG
  split
  · exact hasG_at (l2 := []) (x := (k, v))
  · split
    · exact hasG_at (l2 := []) (x := (k, v))
    · exact hasG_at (l2 := []) (x := (k, v))
theorem putG_val {d : β} {room : Int} {L : List (κ × β)} (hn : (L.map (·.1)).Nodup) {k : κ} {v : β} : valG d (putG room L k v) k = v := by
  have h := putG_nodup (room := room) hn k v
  unfold putG at h ⊢
  split at h
  · rename_i h0
    rw [if_pos h0]
    exact valG_at (l2 := []) (x := (k, v)) h
  · rename_i h0
    rw [if_neg h0]
    split at h
    · rename_i h1
      rw [if_pos h1]
      exact valG_at (l2 := []) (x := (k, v)) h
    · rename_i h1
      rw [if_neg h1]
      exact valG_at (l2 := []) (x := (k, v)) h
theorem delG_has {L : List (κ × β)} {k : κ} : hasG (delG L k) k = false := by
  cases h : hasG (delG L k) k with
  | false => rfl
  | true => exact absurd (hasG_mem.1 h) delG_out
end
set_option maxHeartbeats 8000000 in
theorem texts_ok (w0 : World) (F : List Atom) (sb m rb : Nat) (room : Int) (kv : List (ByteArray × Value)) (xs : List NdS) (L : List (ByteArray × ByteArray)) (ka va : Option Addr) (kc vc : Nat) (hB : BothS room kv xs L ka va) (hr2 : room ≤ 4096) (hK : HVS (pS xs)) (hT : Tab w0 F) (hr1 : 1 ≤ room) (kd key : Int) (txt : ByteArray) (p q : Int) (hp : I64 p) (hq : I64 q) :
    CallK Tryd.prog 9 [.pointer (some ⟨sb, 0, none⟩), .pointer (some ⟨rb, 0, none⟩), .agg #[.int .i64 kd, .int .i64 key, .string txt], .agg #[.int .i64 p, .int .i64 q]] w0 (Blk sb (.cells [Value.int .i64 room, .map (some m), .pointer (fstPS (xs) none), .pointer (lstPS (xs) none)].toArray 51 (0, 0)) :: SegS 96 none (xs) none :: MapG Value.string m kv :: Blk rb (.cells [Value.int .i64 room, .slice ka L.length kc, .slice va L.length vc].toArray 58 (0, 0)) :: Own 9 1 (.slice ka L.length kc) L.length (strs (k1 L)) :: Own 9 1 (.slice va L.length vc) L.length (strs (k2 L)) :: F) (Gives w0 fun v F2 => ∃ y lv L1 ka1 va1 kc1 vc1, v = .bool true ∧ BothS room lv y L1 ka1 va1 ∧ HVS (pS y) ∧ F2 = Blk sb (.cells [Value.int .i64 room, .map (some m), .pointer (fstPS (y) none), .pointer (lstPS (y) none)].toArray 51 (0, 0)) :: SegS 96 none (y) none :: MapG Value.string m lv :: Blk rb (.cells [Value.int .i64 room, .slice ka1 L1.length kc1, .slice va1 L1.length vc1].toArray 58 (0, 0)) :: Own 9 1 (.slice ka1 L1.length kc1) L1.length (strs (k1 L1)) :: Own 9 1 (.slice va1 L1.length vc1) L1.length (strs (k2 L1)) :: F) := by
  have hB0 := hB
  obtain ⟨hS, hl, hL, hk, hv⟩ := hB
  have hll := bothS_len hL
  have hnd := bothS_nodup hS hL
  have hp1 := keyT_sz hp
  have hq1 := keyT_sz hq
  have hcm := comma_sz
  refine c_enter Tryd.func9 rfl rfl rfl ?_
  refine g_seq ?_
  refine g_region ?_
  refine l_boxs rfl rfl ?_; intro b6
  refine l_boxs rfl rfl ?_; intro b7
  refine l_assign rfl rfl ?_
  refine l_nil ?_
  refine g_seq ?_
  refine gp_start mo (by kernel_rfl) (by kernel_rfl) ?_
  refine gp_quiet 0 rfl rfl rfl rfl rfl rfl (q_fieldAddr fa_28_0 rfl) ?_
  first | refine gp_quiet 1 rfl rfl rfl rfl rfl rfl (q_ld Tryd.isAgg3 rfl rfl) ?_ | refine gp_quiet 1 rfl rfl rfl rfl rfl rfl (q_ldw Tryd.isAgg3 rfl (by omega)) ?_
  refine gp_quiet 4 rfl rfl rfl rfl rfl rfl (q_fieldAddr fa_28_1 rfl) ?_
  first | refine gp_quiet 5 rfl rfl rfl rfl rfl rfl (q_ld Tryd.isAgg3 rfl rfl) ?_ | refine gp_quiet 5 rfl rfl rfl rfl rfl rfl (q_ldw Tryd.isAgg3 rfl (by omega)) ?_
  refine gp_effa 2 [1] [5, 4, 0] rfl rfl rfl rfl rfl rfl rfl (does_call Tryd.call24 rfl (key_ok _ _ p hp hT.ex)) ?_
  rintro _ _ ⟨rfl, rfl⟩
  refine ⟨?_, ?_⟩
  · first | refine .cons rfl rfl rfl rfl rfl (q_ld Tryd.isAgg3 rfl rfl) ?_ | refine .cons rfl rfl rfl rfl rfl (q_ldw Tryd.isAgg3 rfl (by omega)) ?_
    refine .cons rfl rfl rfl rfl rfl (q_fieldAddr fa_28_1 rfl) ?_
    refine .cons rfl rfl rfl rfl rfl (q_fieldAddr fa_28_0 rfl) ?_
    exact .nil
  refine gp_quiet 3 rfl rfl rfl rfl rfl rfl (q_adds rfl rfl (by first | omega | decide | (simp only [ByteArray.size_append]; omega))) ?_
  refine gp_effa 6 [5] [3, 4, 0] rfl rfl rfl rfl rfl rfl rfl (does_call Tryd.call24 rfl (key_ok _ _ q hq hT.ex)) ?_
  rintro _ _ ⟨rfl, rfl⟩
  refine ⟨?_, ?_⟩
  · refine .cons rfl rfl rfl rfl rfl (q_adds rfl rfl (by first | omega | decide | (simp only [ByteArray.size_append]; omega))) ?_
    refine .cons rfl rfl rfl rfl rfl (q_fieldAddr fa_28_1 rfl) ?_
    refine .cons rfl rfl rfl rfl rfl (q_fieldAddr fa_28_0 rfl) ?_
    exact .nil
  refine gp_quiet 7 rfl rfl rfl rfl rfl rfl (q_adds rfl rfl (by first | omega | decide | (simp only [ByteArray.size_append]; omega))) ?_
  refine gp_quiet 8 rfl rfl rfl rfl rfl rfl (q_assign rfl) ?_
  refine gp_end rfl rfl ?_
  refine g_seq ?_
  refine g_seq ?_
  refine g_region ?_
  refine l_fieldAddr rfl fa_37_0 rfl ?_
  first | refine l_ld rfl Tryd.isAgg3 rfl rfl ?_ | refine l_ldw rfl Tryd.isAgg3 rfl (by omega) ?_
  refine l_nil ?_
  refine g_block ?_
  refine g_seq ?_
  refine g_region ?_
  refine l_eql rfl rfl rfl ?_
  refine l_assign rfl rfl ?_
  refine l_nil ?_
  refine g_cond rfl ?_ ?_
  · intro hbr
    have hbr := of_decide_eq_true hbr
    refine g_seq ?_
    refine g_region ?_
    refine l_move rfl rfl ?_
    refine l_fieldAddr rfl fa_37_2 rfl ?_
    refine l_ld rfl Tryd.isAgg9 rfl rfl ?_
    refine l_lds rfl Tryd.isAgg28 Tryd.sizeOf28 rfl rfl ?_
    refine l_take (MapG Value.string m kv) ?_
    refine l_take (SegS 96 none (xs) none) ?_
    refine l_take (Blk sb (.cells [Value.int .i64 room, .map (some m), .pointer (fstPS (xs) none), .pointer (lstPS (xs) none)].toArray 51 (0, 0))) ?_
    refine l_call rfl Tryd.call25 rfl (put_any_st _ _ sb m room kv xs hS txt (p, q) hr1) ?_; rintro _ _ ⟨y, lv, rfl, hS2, hQ2, rfl⟩
    obtain ⟨gq, hgq⟩ : ∃ g, goneG room (pS xs) txt = g := ⟨_, rfl⟩
    rw [hgq]
    refine l_move rfl rfl ?_
    refine l_extract rfl rfl rfl ?_
    refine l_extract rfl rfl rfl ?_
    refine l_assign rfl rfl ?_
    refine l_assign rfl rfl ?_
    refine l_nil ?_
    refine g_seq ?_
    refine g_region ?_
    refine l_move rfl rfl ?_
    refine l_fieldAddr rfl fa_37_2 rfl ?_
    refine l_ld rfl Tryd.isAgg9 rfl rfl ?_
    refine l_move rfl rfl ?_
    refine l_take (Own 9 1 (.slice va L.length vc) L.length (strs (k2 L))) ?_
    refine l_take (Own 9 1 (.slice ka L.length kc) L.length (strs (k1 L))) ?_
    refine l_take (Blk rb (.cells [Value.int .i64 room, .slice ka L.length kc, .slice va L.length vc].toArray 58 (0, 0))) ?_
    refine l_call rfl Tryd.call26 rfl (rput_ok _ _ rb room L ka va kc vc hk hv (by omega) hnd txt (toldP (p, q)) hr1) ?_; rintro _ _ ⟨ka1, va1, kc1, vc1, hk1, hv1, rfl, rfl⟩
    rw [bothS_gone hL, hgq]
    refine l_move rfl rfl ?_
    refine l_extract rfl rfl rfl ?_
    refine l_extract rfl rfl rfl ?_
    refine l_assign rfl rfl ?_
    refine l_assign rfl rfl ?_
    refine l_nil ?_
    refine g_seq ?_
    refine g_region ?_
    refine l_move rfl rfl ?_
    refine l_move rfl rfl ?_
    refine l_eqls rfl rfl rfl ?_
    refine l_move rfl rfl ?_
    refine l_split 53 rfl ?_ ?_
    · intro hbr
      have hb53 := hbr
      refine l_guard_yes rfl rfl ?_
      refine l_move rfl rfl ?_
      refine l_guard_yes rfl rfl ?_
      refine l_move rfl rfl ?_
      refine l_guard_yes rfl rfl ?_
      refine l_eqlb rfl Tryd.underlying4 rfl rfl ?_
      refine l_pick_t rfl rfl rfl ?_
      refine l_assign rfl rfl ?_
      refine l_nil ?_
      refine g_ret Tryd.func9 rfl (.tmp rfl .nil) ?_
      exact Gives.mki ⟨y, lv, _, ka1, va1, kc1, vc1, (by first | rfl | (simp [resVal, toldP]; done) | (simp_all [resVal, toldP]; done)), hB0.put hr1 hS2 hQ2 hk1 hv1, by rw [hQ2]; exact hK.put _ _ ⟨hp, hq⟩, rfl⟩
    · intro hbr
      first | (exfalso; simp at hbr; done) | (exfalso; simp at hbr; omega) | (exfalso; first | omega | (simp at hbr; done) | (simp_all; done))
  intro hbr
  have hbr := of_decide_eq_false hbr
  refine g_seq ?_
  refine g_region ?_
  refine l_eql rfl rfl rfl ?_
  refine l_assign rfl rfl ?_
  refine l_nil ?_
  refine g_cond rfl ?_ ?_
  · intro hbr
    have hbr := of_decide_eq_true hbr
    refine g_seq ?_
    refine g_region ?_
    refine l_move rfl rfl ?_
    refine l_fieldAddr rfl fa_37_2 rfl ?_
    refine l_ld rfl Tryd.isAgg9 rfl rfl ?_
    refine l_take (MapG Value.string m kv) ?_
    refine l_take (SegS 96 none (xs) none) ?_
    refine l_take (Blk sb (.cells [Value.int .i64 room, .map (some m), .pointer (fstPS (xs) none), .pointer (lstPS (xs) none)].toArray 51 (0, 0))) ?_
    refine l_call rfl Tryd.call27 rfl (get_any_st _ _ sb m room kv xs hS txt) ?_; rintro _ _ ⟨y, rfl, hS2, hQ2, rfl⟩
    refine l_move rfl rfl ?_
    refine l_extract rfl rfl rfl ?_
    refine l_extract rfl rfl rfl ?_
    refine l_allocs rfl Tryd.zeroValue28 ?_; intro b14
    refine l_sts Tryd.sizeOf28 rfl rfl rfl rfl rfl ?_
    refine l_assign rfl rfl ?_
    refine l_nil ?_
    refine g_seq ?_
    refine g_region ?_
    refine l_move rfl rfl ?_
    refine l_fieldAddr rfl fa_37_2 rfl ?_
    refine l_ld rfl Tryd.isAgg9 rfl rfl ?_
    refine l_take (Own 9 1 (.slice va L.length vc) L.length (strs (k2 L))) ?_
    refine l_take (Own 9 1 (.slice ka L.length kc) L.length (strs (k1 L))) ?_
    refine l_take (Blk rb (.cells [Value.int .i64 room, .slice ka L.length kc, .slice va L.length vc].toArray 58 (0, 0))) ?_
    refine l_call rfl Tryd.call28 rfl (rget_ok _ _ rb room L ka va kc vc hk hv (by omega) hnd txt hr1) ?_; rintro _ _ ⟨ka1, va1, kc1, vc1, hk1, hv1, rfl, rfl⟩
    rw [bothS_has hL]
    refine l_move rfl rfl ?_
    refine l_extract rfl rfl rfl ?_
    refine l_extract rfl rfl rfl ?_
    refine l_assign rfl rfl ?_
    refine l_assign rfl rfl ?_
    refine l_nil ?_
    refine g_seq ?_
    refine g_seq ?_
    refine g_region ?_
    refine l_move rfl rfl ?_
    refine l_not rfl rfl ?_
    refine l_nil ?_
    refine g_cond rfl ?_ ?_
    · intro hbr
      have hb75 := hbr
      refine g_seq ?_
      refine g_region ?_
      have hz : hasG (pS xs) txt = false := by simpa using hbr
      rw [valG_none hz, hz]
      refine l_move rfl rfl ?_
      refine l_not rfl rfl ?_
      refine l_move rfl rfl ?_
      refine l_split 78 rfl ?_ ?_
      · intro hbr
        have hb78 := hbr
        refine l_guard_yes rfl rfl ?_
        refine l_lds rfl Tryd.isAgg28 Tryd.sizeOf28 rfl rfl ?_
        refine l_guard_yes rfl rfl ?_
        refine l_build rfl rfl (fun w => bd_28_z w) ?_
        refine l_guard_yes rfl rfl ?_
        refine l_bin rfl rfl rfl (fun w => run_eqGuard_agg w _ _ _ _ _ _ Tryd.eqGuardType28) (fun w => sqe_28 _ _ _ _ w) ?_
        refine l_pick_t rfl rfl rfl ?_
        refine l_assign rfl rfl ?_
        refine l_nil ?_
        refine g_ret Tryd.func9 rfl (.tmp rfl .nil) ?_
        exact Gives.mki ⟨y, kv, _, ka1, va1, kc1, vc1, (by first | rfl | (simp [resVal, toldP]; done) | (simp_all [resVal, toldP]; done)), hB0.get hS2 hQ2 hk1 hv1, by rw [hQ2]; exact hK.get _, rfl⟩
      · intro hbr
        first | (exfalso; simp at hbr; done) | (exfalso; simp at hbr; omega) | (exfalso; first | omega | (simp at hbr; done) | (simp_all; done))
    intro hbr
    have hb75 := hbr
    refine g_skip ?_
    refine g_seq ?_
    refine gp_start mo (by kernel_rfl) (by kernel_rfl) ?_
    have hz : hasG (pS xs) txt = true := by simpa using hbr
    have hz1 := keyT_sz (hK.val txt).1
    have hz2 := keyT_sz (hK.val txt).2
    rw [bothS_val hL hz, hz]
    refine gp_quiet 0 rfl rfl rfl rfl rfl rfl (q_move rfl) ?_
    refine gp_quiet 1 rfl rfl rfl rfl rfl rfl (q_move rfl) ?_
    refine gp_split 84 rfl ?_ ?_
    · intro hbr
      have hg84 := hbr
      have hb84 := hbr
      refine gp_quietg 2 rfl rfl rfl rfl rfl rfl (.yes rfl rfl (q_fieldAddr fa_28_0 rfl)) ?_
      first | refine gp_quietg 3 rfl rfl rfl rfl rfl rfl (.yes rfl rfl (q_ld Tryd.isAgg3 rfl rfl)) ?_ | refine gp_quietg 3 rfl rfl rfl rfl rfl rfl (.yes rfl rfl (q_ldw Tryd.isAgg3 rfl (by omega))) ?_
      refine gp_quietg 6 rfl rfl rfl rfl rfl rfl (.yes rfl rfl (q_fieldAddr fa_28_1 rfl)) ?_
      first | refine gp_quietg 7 rfl rfl rfl rfl rfl rfl (.yes rfl rfl (q_ld Tryd.isAgg3 rfl rfl)) ?_ | refine gp_quietg 7 rfl rfl rfl rfl rfl rfl (.yes rfl rfl (q_ldw Tryd.isAgg3 rfl (by omega))) ?_
      refine gp_quietg 10 rfl rfl rfl rfl rfl rfl (.yes rfl rfl (q_move rfl)) ?_
      refine gp_effg 4 rfl rfl rfl rfl rfl rfl (.yes rfl rfl rfl) (Does.guard (does_call Tryd.call24 rfl (key_ok _ _ (valG (0, 0) (pS xs) txt).1 (hK.val txt).1 hT.ex))) ?_
      rintro _ _ ⟨rfl, rfl⟩
      refine ⟨?_, ?_⟩
      · refine .consG rfl rfl rfl rfl rfl (.yes rfl rfl (q_move rfl)) ?_
        first | refine .consG rfl rfl rfl rfl rfl (.yes rfl rfl (q_ld Tryd.isAgg3 rfl rfl)) ?_ | refine .consG rfl rfl rfl rfl rfl (.yes rfl rfl (q_ldw Tryd.isAgg3 rfl (by omega))) ?_
        refine .consG rfl rfl rfl rfl rfl (.yes rfl rfl (q_fieldAddr fa_28_1 rfl)) ?_
        first | refine .consG rfl rfl rfl rfl rfl (.yes rfl rfl (q_ld Tryd.isAgg3 rfl rfl)) ?_ | refine .consG rfl rfl rfl rfl rfl (.yes rfl rfl (q_ldw Tryd.isAgg3 rfl (by omega))) ?_
        refine .consG rfl rfl rfl rfl rfl (.yes rfl rfl (q_fieldAddr fa_28_0 rfl)) ?_
        refine .cons rfl rfl rfl rfl rfl (QV.as (q_move rfl) (congrArg Value.bool hg84)) ?_
        refine .cons rfl rfl rfl rfl rfl (q_move rfl) ?_
        exact .nil
      refine gp_quietg 5 rfl rfl rfl rfl rfl rfl (.yes rfl rfl (q_adds rfl rfl (by first | omega | decide | (simp only [ByteArray.size_append]; omega)))) ?_
      refine gp_effg 8 rfl rfl rfl rfl rfl rfl (.yes rfl rfl rfl) (Does.guard (does_call Tryd.call24 rfl (key_ok _ _ (valG (0, 0) (pS xs) txt).2 (hK.val txt).2 hT.ex))) ?_
      rintro _ _ ⟨rfl, rfl⟩
      refine ⟨?_, ?_⟩
      · refine .consG rfl rfl rfl rfl rfl (.yes rfl rfl (q_adds rfl rfl (by first | omega | decide | (simp only [ByteArray.size_append]; omega)))) ?_
        refine .consG rfl rfl rfl rfl rfl (.yes rfl rfl (q_move rfl)) ?_
        first | refine .consG rfl rfl rfl rfl rfl (.yes rfl rfl (q_ld Tryd.isAgg3 rfl rfl)) ?_ | refine .consG rfl rfl rfl rfl rfl (.yes rfl rfl (q_ldw Tryd.isAgg3 rfl (by omega))) ?_
        refine .consG rfl rfl rfl rfl rfl (.yes rfl rfl (q_fieldAddr fa_28_1 rfl)) ?_
        first | refine .consG rfl rfl rfl rfl rfl (.yes rfl rfl (q_ld Tryd.isAgg3 rfl rfl)) ?_ | refine .consG rfl rfl rfl rfl rfl (.yes rfl rfl (q_ldw Tryd.isAgg3 rfl (by omega))) ?_
        refine .consG rfl rfl rfl rfl rfl (.yes rfl rfl (q_fieldAddr fa_28_0 rfl)) ?_
        refine .cons rfl rfl rfl rfl rfl (QV.as (q_move rfl) (congrArg Value.bool hg84)) ?_
        refine .cons rfl rfl rfl rfl rfl (q_move rfl) ?_
        exact .nil
      refine gp_quietg 9 rfl rfl rfl rfl rfl rfl (.yes rfl rfl (q_adds rfl rfl (by first | omega | decide | (simp only [ByteArray.size_append]; omega)))) ?_
      refine gp_quietg 11 rfl rfl rfl rfl rfl rfl (.yes rfl rfl (q_eqls rfl rfl)) ?_
      refine gp_quiet 12 rfl rfl rfl rfl rfl rfl (q_pick_t rfl rfl) ?_
      refine gp_quiet 13 rfl rfl rfl rfl rfl rfl (q_assign rfl) ?_
      refine gp_end rfl rfl ?_
      refine g_ret Tryd.func9 rfl (.tmp rfl .nil) ?_
      exact Gives.mki ⟨y, kv, _, ka1, va1, kc1, vc1, (by first | rfl | (simp [resVal, toldP]; done) | (simp_all [resVal, toldP]; done)), hB0.get hS2 hQ2 hk1 hv1, by rw [hQ2]; exact hK.get _, rfl⟩
    · intro hbr
      first | (exfalso; simp at hbr; done) | (exfalso; simp at hbr; omega) | (exfalso; first | omega | (simp at hbr; done) | (simp_all; done))
  intro hbr
  have hbr := of_decide_eq_false hbr
  refine g_seq ?_
  refine g_region ?_
  refine l_eql rfl rfl rfl ?_
  refine l_assign rfl rfl ?_
  refine l_nil ?_
  refine g_cond rfl ?_ ?_
  · intro hbr
    have hbr := of_decide_eq_true hbr
    refine g_seq ?_
    refine g_region ?_
    refine l_move rfl rfl ?_
    refine l_fieldAddr rfl fa_37_2 rfl ?_
    refine l_ld rfl Tryd.isAgg9 rfl rfl ?_
    refine l_take (MapG Value.string m kv) ?_
    refine l_take (SegS 96 none (xs) none) ?_
    refine l_take (Blk sb (.cells [Value.int .i64 room, .map (some m), .pointer (fstPS (xs) none), .pointer (lstPS (xs) none)].toArray 51 (0, 0))) ?_
    refine l_call rfl Tryd.call29 rfl (peek_any_st _ _ sb m room kv xs hS txt) ?_; rintro _ _ ⟨rfl, rfl⟩
    refine l_move rfl rfl ?_
    refine l_extract rfl rfl rfl ?_
    refine l_extract rfl rfl rfl ?_
    refine l_allocs rfl Tryd.zeroValue28 ?_; intro b18
    refine l_sts Tryd.sizeOf28 rfl rfl rfl rfl rfl ?_
    refine l_assign rfl rfl ?_
    refine l_nil ?_
    refine g_seq ?_
    refine g_region ?_
    refine l_move rfl rfl ?_
    refine l_fieldAddr rfl fa_37_2 rfl ?_
    refine l_ld rfl Tryd.isAgg9 rfl rfl ?_
    refine l_take (Own 9 1 (.slice va L.length vc) L.length (strs (k2 L))) ?_
    refine l_take (Own 9 1 (.slice ka L.length kc) L.length (strs (k1 L))) ?_
    refine l_take (Blk rb (.cells [Value.int .i64 room, .slice ka L.length kc, .slice va L.length vc].toArray 58 (0, 0))) ?_
    refine l_call rfl Tryd.call30 rfl (rpeek_ok _ _ rb room L ka va kc vc hk hv (by omega) hnd txt) ?_; rintro _ _ ⟨rfl, rfl⟩
    rw [bothS_has hL]
    refine l_move rfl rfl ?_
    refine l_extract rfl rfl rfl ?_
    refine l_extract rfl rfl rfl ?_
    refine l_assign rfl rfl ?_
    refine l_assign rfl rfl ?_
    refine l_nil ?_
    refine g_seq ?_
    refine g_seq ?_
    refine g_region ?_
    refine l_move rfl rfl ?_
    refine l_not rfl rfl ?_
    refine l_nil ?_
    refine g_cond rfl ?_ ?_
    · intro hbr
      have hb113 := hbr
      refine g_seq ?_
      refine g_region ?_
      have hz : hasG (pS xs) txt = false := by simpa using hbr
      rw [valG_none hz, hz]
      refine l_move rfl rfl ?_
      refine l_not rfl rfl ?_
      refine l_move rfl rfl ?_
      refine l_split 116 rfl ?_ ?_
      · intro hbr
        have hb116 := hbr
        refine l_guard_yes rfl rfl ?_
        refine l_lds rfl Tryd.isAgg28 Tryd.sizeOf28 rfl rfl ?_
        refine l_guard_yes rfl rfl ?_
        refine l_build rfl rfl (fun w => bd_28_z w) ?_
        refine l_guard_yes rfl rfl ?_
        refine l_bin rfl rfl rfl (fun w => run_eqGuard_agg w _ _ _ _ _ _ Tryd.eqGuardType28) (fun w => sqe_28 _ _ _ _ w) ?_
        refine l_pick_t rfl rfl rfl ?_
        refine l_assign rfl rfl ?_
        refine l_nil ?_
        refine g_ret Tryd.func9 rfl (.tmp rfl .nil) ?_
        exact Gives.mki ⟨xs, kv, L, ka, va, kc, vc, (by first | rfl | (simp [resVal, toldP]; done) | (simp_all [resVal, toldP]; done)), hB0, hK, rfl⟩
      · intro hbr
        first | (exfalso; simp at hbr; done) | (exfalso; simp at hbr; omega) | (exfalso; first | omega | (simp at hbr; done) | (simp_all; done))
    intro hbr
    have hb113 := hbr
    refine g_skip ?_
    refine g_seq ?_
    refine gp_start mo (by kernel_rfl) (by kernel_rfl) ?_
    have hz : hasG (pS xs) txt = true := by simpa using hbr
    have hz1 := keyT_sz (hK.val txt).1
    have hz2 := keyT_sz (hK.val txt).2
    rw [bothS_val hL hz, hz]
    refine gp_quiet 0 rfl rfl rfl rfl rfl rfl (q_move rfl) ?_
    refine gp_quiet 1 rfl rfl rfl rfl rfl rfl (q_move rfl) ?_
    refine gp_split 122 rfl ?_ ?_
    · intro hbr
      have hg122 := hbr
      have hb122 := hbr
      refine gp_quietg 2 rfl rfl rfl rfl rfl rfl (.yes rfl rfl (q_fieldAddr fa_28_0 rfl)) ?_
      first | refine gp_quietg 3 rfl rfl rfl rfl rfl rfl (.yes rfl rfl (q_ld Tryd.isAgg3 rfl rfl)) ?_ | refine gp_quietg 3 rfl rfl rfl rfl rfl rfl (.yes rfl rfl (q_ldw Tryd.isAgg3 rfl (by omega))) ?_
      refine gp_quietg 6 rfl rfl rfl rfl rfl rfl (.yes rfl rfl (q_fieldAddr fa_28_1 rfl)) ?_
      first | refine gp_quietg 7 rfl rfl rfl rfl rfl rfl (.yes rfl rfl (q_ld Tryd.isAgg3 rfl rfl)) ?_ | refine gp_quietg 7 rfl rfl rfl rfl rfl rfl (.yes rfl rfl (q_ldw Tryd.isAgg3 rfl (by omega))) ?_
      refine gp_quietg 10 rfl rfl rfl rfl rfl rfl (.yes rfl rfl (q_move rfl)) ?_
      refine gp_effg 4 rfl rfl rfl rfl rfl rfl (.yes rfl rfl rfl) (Does.guard (does_call Tryd.call24 rfl (key_ok _ _ (valG (0, 0) (pS xs) txt).1 (hK.val txt).1 hT.ex))) ?_
      rintro _ _ ⟨rfl, rfl⟩
      refine ⟨?_, ?_⟩
      · refine .consG rfl rfl rfl rfl rfl (.yes rfl rfl (q_move rfl)) ?_
        first | refine .consG rfl rfl rfl rfl rfl (.yes rfl rfl (q_ld Tryd.isAgg3 rfl rfl)) ?_ | refine .consG rfl rfl rfl rfl rfl (.yes rfl rfl (q_ldw Tryd.isAgg3 rfl (by omega))) ?_
        refine .consG rfl rfl rfl rfl rfl (.yes rfl rfl (q_fieldAddr fa_28_1 rfl)) ?_
        first | refine .consG rfl rfl rfl rfl rfl (.yes rfl rfl (q_ld Tryd.isAgg3 rfl rfl)) ?_ | refine .consG rfl rfl rfl rfl rfl (.yes rfl rfl (q_ldw Tryd.isAgg3 rfl (by omega))) ?_
        refine .consG rfl rfl rfl rfl rfl (.yes rfl rfl (q_fieldAddr fa_28_0 rfl)) ?_
        refine .cons rfl rfl rfl rfl rfl (QV.as (q_move rfl) (congrArg Value.bool hg122)) ?_
        refine .cons rfl rfl rfl rfl rfl (q_move rfl) ?_
        exact .nil
      refine gp_quietg 5 rfl rfl rfl rfl rfl rfl (.yes rfl rfl (q_adds rfl rfl (by first | omega | decide | (simp only [ByteArray.size_append]; omega)))) ?_
      refine gp_effg 8 rfl rfl rfl rfl rfl rfl (.yes rfl rfl rfl) (Does.guard (does_call Tryd.call24 rfl (key_ok _ _ (valG (0, 0) (pS xs) txt).2 (hK.val txt).2 hT.ex))) ?_
      rintro _ _ ⟨rfl, rfl⟩
      refine ⟨?_, ?_⟩
      · refine .consG rfl rfl rfl rfl rfl (.yes rfl rfl (q_adds rfl rfl (by first | omega | decide | (simp only [ByteArray.size_append]; omega)))) ?_
        refine .consG rfl rfl rfl rfl rfl (.yes rfl rfl (q_move rfl)) ?_
        first | refine .consG rfl rfl rfl rfl rfl (.yes rfl rfl (q_ld Tryd.isAgg3 rfl rfl)) ?_ | refine .consG rfl rfl rfl rfl rfl (.yes rfl rfl (q_ldw Tryd.isAgg3 rfl (by omega))) ?_
        refine .consG rfl rfl rfl rfl rfl (.yes rfl rfl (q_fieldAddr fa_28_1 rfl)) ?_
        first | refine .consG rfl rfl rfl rfl rfl (.yes rfl rfl (q_ld Tryd.isAgg3 rfl rfl)) ?_ | refine .consG rfl rfl rfl rfl rfl (.yes rfl rfl (q_ldw Tryd.isAgg3 rfl (by omega))) ?_
        refine .consG rfl rfl rfl rfl rfl (.yes rfl rfl (q_fieldAddr fa_28_0 rfl)) ?_
        refine .cons rfl rfl rfl rfl rfl (QV.as (q_move rfl) (congrArg Value.bool hg122)) ?_
        refine .cons rfl rfl rfl rfl rfl (q_move rfl) ?_
        exact .nil
      refine gp_quietg 9 rfl rfl rfl rfl rfl rfl (.yes rfl rfl (q_adds rfl rfl (by first | omega | decide | (simp only [ByteArray.size_append]; omega)))) ?_
      refine gp_quietg 11 rfl rfl rfl rfl rfl rfl (.yes rfl rfl (q_eqls rfl rfl)) ?_
      refine gp_quiet 12 rfl rfl rfl rfl rfl rfl (q_pick_t rfl rfl) ?_
      refine gp_quiet 13 rfl rfl rfl rfl rfl rfl (q_assign rfl) ?_
      refine gp_end rfl rfl ?_
      refine g_ret Tryd.func9 rfl (.tmp rfl .nil) ?_
      exact Gives.mki ⟨xs, kv, L, ka, va, kc, vc, (by first | rfl | (simp [resVal, toldP]; done) | (simp_all [resVal, toldP]; done)), hB0, hK, rfl⟩
    · intro hbr
      first | (exfalso; simp at hbr; done) | (exfalso; simp at hbr; omega) | (exfalso; first | omega | (simp at hbr; done) | (simp_all; done))
  intro hbr
  have hbr := of_decide_eq_false hbr
  refine g_seq ?_
  refine g_region ?_
  refine l_eql rfl rfl rfl ?_
  refine l_assign rfl rfl ?_
  refine l_nil ?_
  refine g_cond rfl ?_ ?_
  · intro hbr
    have hbr := of_decide_eq_true hbr
    refine g_seq ?_
    refine gp_start mo (by kernel_rfl) (by kernel_rfl) ?_
    refine gp_quiet 0 rfl rfl rfl rfl rfl rfl (q_move rfl) ?_
    refine gp_quiet 1 rfl rfl rfl rfl rfl rfl (q_fieldAddr fa_37_2 rfl) ?_
    refine gp_quiet 2 rfl rfl rfl rfl rfl rfl (q_ld Tryd.isAgg9 rfl rfl) ?_
    refine gp_quiet 4 rfl rfl rfl rfl rfl rfl (q_move rfl) ?_
    refine gp_quiet 5 rfl rfl rfl rfl rfl rfl (q_fieldAddr fa_37_2 rfl) ?_
    refine gp_quiet 6 rfl rfl rfl rfl rfl rfl (q_ld Tryd.isAgg9 rfl rfl) ?_
    refine gp_take (MapG Value.string m kv) ?_
    refine gp_take (SegS 96 none (xs) none) ?_
    refine gp_take (Blk sb (.cells [Value.int .i64 room, .map (some m), .pointer (fstPS (xs) none), .pointer (lstPS (xs) none)].toArray 51 (0, 0))) ?_
    refine gp_effa 3 [0, 2] [6, 5, 4, 1] rfl rfl rfl rfl rfl rfl rfl (does_call Tryd.call31 rfl (drop_any_st _ _ sb m room kv xs hS txt)) ?_
    rintro _ _ ⟨y, lv, rfl, hS2, hQ2, rfl⟩
    refine ⟨?_, ?_⟩
    · refine .cons rfl rfl rfl rfl rfl (q_ld Tryd.isAgg9 rfl rfl) ?_
      refine .cons rfl rfl rfl rfl rfl (q_fieldAddr fa_37_2 rfl) ?_
      refine .cons rfl rfl rfl rfl rfl (q_move rfl) ?_
      refine .cons rfl rfl rfl rfl rfl (q_fieldAddr fa_37_2 rfl) ?_
      exact .nil
    refine gp_take (Own 9 1 (.slice va L.length vc) L.length (strs (k2 L))) ?_
    refine gp_take (Own 9 1 (.slice ka L.length kc) L.length (strs (k1 L))) ?_
    refine gp_take (Blk rb (.cells [Value.int .i64 room, .slice ka L.length kc, .slice va L.length vc].toArray 58 (0, 0))) ?_
    refine gp_effa 7 [4, 6] [5, 1] rfl rfl rfl rfl rfl rfl rfl (does_call Tryd.call32 rfl (rdrop_ok _ _ rb room L ka va kc vc hk hv (by omega) hnd txt)) ?_
    rintro _ _ ⟨ka1, va1, kc1, vc1, hk1, hv1, rfl, rfl⟩
    rw [bothS_has hL]
    refine ⟨?_, ?_⟩
    · refine .cons rfl rfl rfl rfl rfl (q_fieldAddr fa_37_2 rfl) ?_
      refine .cons rfl rfl rfl rfl rfl (q_fieldAddr fa_37_2 rfl) ?_
      exact .nil
    refine gp_quiet 8 rfl rfl rfl rfl rfl rfl (q_eqlb Tryd.underlying4 rfl rfl) ?_
    refine gp_quiet 9 rfl rfl rfl rfl rfl rfl (q_assign rfl) ?_
    refine gp_end rfl rfl ?_
    refine g_ret Tryd.func9 rfl (.tmp rfl .nil) ?_
    exact Gives.mki ⟨y, lv, _, ka1, va1, kc1, vc1, (by first | rfl | (simp [resVal, toldP]; done) | (simp_all [resVal, toldP]; done)), hB0.drop hS2 hQ2 hk1 hv1, by rw [hQ2]; exact hK.del _, rfl⟩
  intro hbr
  have hbr := of_decide_eq_false hbr
  refine g_seq ?_
  refine g_region ?_
  refine l_eql rfl rfl rfl ?_
  refine l_assign rfl rfl ?_
  refine l_nil ?_
  refine g_cond rfl ?_ ?_
  · intro hbr
    have hbr := of_decide_eq_true hbr
    refine g_seq ?_
    refine g_region ?_
    refine l_move rfl rfl ?_
    refine l_take (MapG Value.string m kv) ?_
    refine l_take (SegS 96 none (xs) none) ?_
    refine l_take (Blk sb (.cells [Value.int .i64 room, .map (some m), .pointer (fstPS (xs) none), .pointer (lstPS (xs) none)].toArray 51 (0, 0))) ?_
    refine l_call rfl Tryd.call33 rfl (clear_st _ _ sb m room kv xs hS) ?_; rintro _ _ rfl
    refine l_nil ?_
    refine g_region ?_
    refine l_move rfl rfl ?_
    refine gl_heap (F' := Blk rb (.cells [Value.int .i64 room, .slice ka L.length kc, .slice va L.length vc].toArray 58 (0, 0)) :: Blk sb (.cells [Value.int .i64 room, .map (some m), .pointer (fstPS ([]) none), .pointer (lstPS ([]) none)].toArray 51 (0, 0)) :: SegS 96 none ([]) none :: MapG Value.string m [] :: Blk b6 (.cells [Value.int .i64 kd, .int .i64 key, .string txt].toArray 37 (0, 0)) :: Blk b7 (.cells [Value.int .i64 p, .int .i64 q].toArray 28 (0, 0)) :: F) (fun w hw => SPI.holds hw) ?_
    refine l_call rfl Tryd.call34 rfl (rclear_ok _ _ rb room (.slice ka L.length kc) (.slice va L.length vc)) ?_; rintro _ _ rfl
    refine gl_heap (F' := Blk sb (.cells [Value.int .i64 room, .map (some m), .pointer (fstPS ([]) none), .pointer (lstPS ([]) none)].toArray 51 (0, 0)) :: SegS 96 none ([]) none :: MapG Value.string m [] :: Blk rb (.cells [Value.int .i64 room, .slice none ([] : List (ByteArray × ByteArray)).length 0, .slice none ([] : List (ByteArray × ByteArray)).length 0].toArray 58 (0, 0)) :: Own 9 1 (.slice none ([] : List (ByteArray × ByteArray)).length 0) ([] : List (ByteArray × ByteArray)).length (strs (k1 ([] : List (ByteArray × ByteArray)))) :: Own 9 1 (.slice none ([] : List (ByteArray × ByteArray)).length 0) ([] : List (ByteArray × ByteArray)).length (strs (k2 ([] : List (ByteArray × ByteArray)))) :: F) (fun w hw => show Holds w0 (Blk sb (.cells [Value.int .i64 room, .map (some m), .pointer (fstPS ([]) none), .pointer (lstPS ([]) none)].toArray 51 (0, 0)) :: SegS 96 none ([]) none :: MapG Value.string m [] :: Blk rb (.cells [Value.int .i64 room, .slice none 0 0, .slice none 0 0].toArray 58 (0, 0)) :: Own 9 1 (.slice none 0 0) 0 [] :: Own 9 1 (.slice none 0 0) 0 [] :: F) w from SPI.holds (show Holds w0 (Blk rb (.cells [Value.int .i64 room, .slice none 0 0, .slice none 0 0].toArray 58 (0, 0)) :: Own 9 1 (.slice none 0 0) 0 [] :: Own 9 1 (.slice none 0 0) 0 [] :: Blk sb (.cells [Value.int .i64 room, .map (some m), .pointer (fstPS ([]) none), .pointer (lstPS ([]) none)].toArray 51 (0, 0)) :: SegS 96 none ([]) none :: MapG Value.string m [] :: Blk b6 (.cells [Value.int .i64 kd, .int .i64 key, .string txt].toArray 37 (0, 0)) :: Blk b7 (.cells [Value.int .i64 p, .int .i64 q].toArray 28 (0, 0)) :: F) w from hw)) ?_
    refine l_nil ?_
    refine g_inBlock ?_
    refine g_seq ?_
    refine g_region ?_
    refine l_assign rfl rfl ?_
    refine l_nil ?_
    refine g_ret Tryd.func9 rfl (.tmp rfl .nil) ?_
    exact Gives.mki ⟨[], [], [], none, none, 0, 0, rfl, BothS.nil hr1, HVS.nil, rfl⟩
  intro hbr
  have hbr := of_decide_eq_false hbr
  refine g_skip ?_
  refine g_inBlock ?_
  refine g_seq ?_
  refine g_region ?_
  refine l_assign rfl rfl ?_
  refine l_nil ?_
  refine g_ret Tryd.func9 rfl (.tmp rfl .nil) ?_
  exact Gives.mki ⟨xs, kv, L, ka, va, kc, vc, rfl, hB0, hK, rfl⟩
set_option maxHeartbeats 8000000 in
theorem pairs_ok (w0 : World) (F : List Atom) (sb m : Nat) (room : Int) (kv : List ((Int × Int) × Value)) (xs : List NdQ) (hS : ShOkQ kv xs) (hl : (xs.length : Int) ≤ room) (hr1 : 1 ≤ room) (kd key : Int) (txt : ByteArray) (p q : Int) :
    CallK Tryd.prog 10 [.pointer (some ⟨sb, 0, none⟩), .agg #[.int .i64 kd, .int .i64 key, .string txt], .agg #[.int .i64 p, .int .i64 q]] w0 (Blk sb (.cells [Value.int .i64 room, .map (some m), .pointer (fstPQ (xs) none), .pointer (lstPQ (xs) none)].toArray 55 (0, 0)) :: SegQ 102 none (xs) none :: MapG kvP m kv :: F) (Gives w0 fun v F2 => ∃ y lv, v = .bool true ∧ ShOkQ lv y ∧ (y.length : Int) ≤ room ∧ F2 = Blk sb (.cells [Value.int .i64 room, .map (some m), .pointer (fstPQ (y) none), .pointer (lstPQ (y) none)].toArray 55 (0, 0)) :: SegQ 102 none (y) none :: MapG kvP m lv :: F) := by
  have hnd : ((pQ xs).map (·.1)).Nodup := by
    rw [pg_keys]
    exact hS.nd
  refine c_enter Tryd.func10 rfl rfl rfl ?_
  refine g_seq ?_
  refine g_region ?_
  refine l_boxs rfl rfl ?_; intro b4
  refine l_boxs rfl rfl ?_; intro b5
  refine l_assign rfl rfl ?_
  refine l_nil ?_
  refine g_seq ?_
  refine g_seq ?_
  refine g_region ?_
  refine l_fieldAddr rfl fa_37_0 rfl ?_
  first | refine l_ld rfl Tryd.isAgg3 rfl rfl ?_ | refine l_ldw rfl Tryd.isAgg3 rfl (by omega) ?_
  refine l_nil ?_
  refine g_block ?_
  refine g_seq ?_
  refine g_seq ?_
  refine g_region ?_
  refine l_eql rfl rfl rfl ?_
  refine l_assign rfl rfl ?_
  refine l_nil ?_
  refine g_cond rfl ?_ ?_
  · intro hbr
    have hbr := of_decide_eq_true hbr
    refine g_skip ?_
    first | refine g_cond_t rfl ?_ | refine g_cond_t (congrArg (fun b => some (Value.bool b)) (decide_eq_true hbr)) ?_
    refine g_seq ?_
    refine g_region ?_
    refine l_move rfl rfl ?_
    refine l_lds rfl Tryd.isAgg28 Tryd.sizeOf28 rfl rfl ?_
    refine l_fieldAddr rfl fa_37_2 rfl ?_
    refine l_ld rfl Tryd.isAgg9 rfl rfl ?_
    refine l_take (MapG kvP m kv) ?_
    refine l_take (SegQ 102 none (xs) none) ?_
    refine l_take (Blk sb (.cells [Value.int .i64 room, .map (some m), .pointer (fstPQ (xs) none), .pointer (lstPQ (xs) none)].toArray 55 (0, 0))) ?_
    refine l_call rfl Tryd.call35 rfl (put_any_pt _ _ sb m room kv xs hS (p, q) txt hr1) ?_; rintro _ _ ⟨y, lv, rfl, hS2, hQ2, rfl⟩
    refine l_nil ?_
    refine g_seq ?_
    refine g_region ?_
    refine l_move rfl rfl ?_
    refine l_lds rfl Tryd.isAgg28 Tryd.sizeOf28 rfl rfl ?_
    refine l_take (MapG kvP m lv) ?_
    refine l_take (SegQ 102 none (y) none) ?_
    refine l_take (Blk sb (.cells [Value.int .i64 room, .map (some m), .pointer (fstPQ (y) none), .pointer (lstPQ (y) none)].toArray 55 (0, 0))) ?_
    refine l_call rfl Tryd.call36 rfl (get_any_pt _ _ sb m room lv y hS2 (p, q)) ?_; rintro _ _ ⟨y2, rfl, hS3, hQ3, rfl⟩
    rw [hQ2, putG_has, putG_val hnd]
    refine l_move rfl rfl ?_
    refine l_extract rfl rfl rfl ?_
    refine l_extract rfl rfl rfl ?_
    refine l_assign rfl rfl ?_
    refine l_assign rfl rfl ?_
    refine l_nil ?_
    refine g_seq ?_
    refine g_region ?_
    refine l_move rfl rfl ?_
    refine l_move rfl rfl ?_
    refine l_split 30 rfl ?_ ?_
    · intro hbr
      have hb30 := hbr
      refine l_guard_yes rfl rfl ?_
      refine l_move rfl rfl ?_
      refine l_guard_yes rfl rfl ?_
      refine l_fieldAddr rfl fa_37_2 rfl ?_
      refine l_guard_yes rfl rfl ?_
      refine l_ld rfl Tryd.isAgg9 rfl rfl ?_
      refine l_guard_yes rfl rfl ?_
      refine l_eqls rfl rfl rfl ?_
      refine l_pick_t rfl rfl rfl ?_
      refine l_assign rfl rfl ?_
      refine l_nil ?_
      refine g_ret Tryd.func10 rfl (.tmp rfl .nil) ?_
      exact Gives.mki ⟨y2, lv, (by first | rfl | (simp [resVal, toldP]; done) | (simp_all [resVal, toldP]; done)), hS3, by rw [← pQ_len, hQ3]; exact getG_len (by rw [hQ2]; exact putG_len hr1 (by rw [pQ_len]; exact hl)), rfl⟩
    · intro hbr
      first | (exfalso; simp at hbr; done) | (exfalso; simp at hbr; omega) | (exfalso; first | omega | (simp at hbr; done) | (simp_all; done))
  intro hbr
  have hbr := of_decide_eq_false hbr
  refine g_region ?_
  refine l_eql rfl rfl rfl ?_
  refine l_assign rfl rfl ?_
  refine l_nil ?_
  refine g_cond rfl ?_ ?_
  · intro hbr
    have hbr := of_decide_eq_true hbr
    refine g_seq ?_
    refine g_region ?_
    refine l_move rfl rfl ?_
    refine l_lds rfl Tryd.isAgg28 Tryd.sizeOf28 rfl rfl ?_
    refine l_fieldAddr rfl fa_37_2 rfl ?_
    refine l_ld rfl Tryd.isAgg9 rfl rfl ?_
    refine l_take (MapG kvP m kv) ?_
    refine l_take (SegQ 102 none (xs) none) ?_
    refine l_take (Blk sb (.cells [Value.int .i64 room, .map (some m), .pointer (fstPQ (xs) none), .pointer (lstPQ (xs) none)].toArray 55 (0, 0))) ?_
    refine l_call rfl Tryd.call35 rfl (put_any_pt _ _ sb m room kv xs hS (p, q) txt hr1) ?_; rintro _ _ ⟨y, lv, rfl, hS2, hQ2, rfl⟩
    refine l_nil ?_
    refine g_seq ?_
    refine g_region ?_
    refine l_move rfl rfl ?_
    refine l_lds rfl Tryd.isAgg28 Tryd.sizeOf28 rfl rfl ?_
    refine l_take (MapG kvP m lv) ?_
    refine l_take (SegQ 102 none (y) none) ?_
    refine l_take (Blk sb (.cells [Value.int .i64 room, .map (some m), .pointer (fstPQ (y) none), .pointer (lstPQ (y) none)].toArray 55 (0, 0))) ?_
    refine l_call rfl Tryd.call36 rfl (get_any_pt _ _ sb m room lv y hS2 (p, q)) ?_; rintro _ _ ⟨y2, rfl, hS3, hQ3, rfl⟩
    rw [hQ2, putG_has, putG_val hnd]
    refine l_move rfl rfl ?_
    refine l_extract rfl rfl rfl ?_
    refine l_extract rfl rfl rfl ?_
    refine l_assign rfl rfl ?_
    refine l_assign rfl rfl ?_
    refine l_nil ?_
    refine g_seq ?_
    refine g_region ?_
    refine l_move rfl rfl ?_
    refine l_move rfl rfl ?_
    refine l_split 30 rfl ?_ ?_
    · intro hbr
      have hb30 := hbr
      refine l_guard_yes rfl rfl ?_
      refine l_move rfl rfl ?_
      refine l_guard_yes rfl rfl ?_
      refine l_fieldAddr rfl fa_37_2 rfl ?_
      refine l_guard_yes rfl rfl ?_
      refine l_ld rfl Tryd.isAgg9 rfl rfl ?_
      refine l_guard_yes rfl rfl ?_
      refine l_eqls rfl rfl rfl ?_
      refine l_pick_t rfl rfl rfl ?_
      refine l_assign rfl rfl ?_
      refine l_nil ?_
      refine g_ret Tryd.func10 rfl (.tmp rfl .nil) ?_
      exact Gives.mki ⟨y2, lv, (by first | rfl | (simp [resVal, toldP]; done) | (simp_all [resVal, toldP]; done)), hS3, by rw [← pQ_len, hQ3]; exact getG_len (by rw [hQ2]; exact putG_len hr1 (by rw [pQ_len]; exact hl)), rfl⟩
    · intro hbr
      first | (exfalso; simp at hbr; done) | (exfalso; simp at hbr; omega) | (exfalso; first | omega | (simp at hbr; done) | (simp_all; done))
  intro hbr
  have hbr := of_decide_eq_false hbr
  refine g_seq ?_
  refine g_region ?_
  refine l_eql rfl rfl rfl ?_
  refine l_assign rfl rfl ?_
  refine l_nil ?_
  refine g_cond rfl ?_ ?_
  · intro hbr
    have hbr := of_decide_eq_true hbr
    refine g_seq ?_
    refine g_region ?_
    refine l_move rfl rfl ?_
    refine l_lds rfl Tryd.isAgg28 Tryd.sizeOf28 rfl rfl ?_
    refine l_take (MapG kvP m kv) ?_
    refine l_take (SegQ 102 none (xs) none) ?_
    refine l_take (Blk sb (.cells [Value.int .i64 room, .map (some m), .pointer (fstPQ (xs) none), .pointer (lstPQ (xs) none)].toArray 55 (0, 0))) ?_
    refine l_call rfl Tryd.call37 rfl (peek_any_pt _ _ sb m room kv xs hS (p, q)) ?_; rintro _ _ ⟨rfl, rfl⟩
    refine l_move rfl rfl ?_
    refine l_extract rfl rfl rfl ?_
    refine l_extract rfl rfl rfl ?_
    refine l_assign rfl rfl ?_
    refine l_assign rfl rfl ?_
    refine l_nil ?_
    refine g_seq ?_
    refine g_seq ?_
    refine g_region ?_
    refine l_move rfl rfl ?_
    refine l_lds rfl Tryd.isAgg28 Tryd.sizeOf28 rfl rfl ?_
    refine l_take (MapG kvP m kv) ?_
    refine l_take (SegQ 102 none (xs) none) ?_
    refine l_take (Blk sb (.cells [Value.int .i64 room, .map (some m), .pointer (fstPQ (xs) none), .pointer (lstPQ (xs) none)].toArray 55 (0, 0))) ?_
    refine l_call rfl Tryd.call38 rfl (drop_any_pt _ _ sb m room kv xs hS (p, q)) ?_; rintro _ _ ⟨y, lv, rfl, hS2, hQ2, rfl⟩
    refine l_move rfl rfl ?_
    refine l_neqb rfl Tryd.underlying4 rfl rfl ?_
    refine l_nil ?_
    refine g_cond rfl ?_ ?_
    · intro hbr
      first | (exfalso; simp at hbr; done) | (exfalso; simp at hbr; omega) | (exfalso; first | omega | (simp at hbr; done) | (simp_all; done))
    intro hbr
    have hb48 := hbr
    refine g_skip ?_
    refine g_seq ?_
    refine g_region ?_
    refine l_move rfl rfl ?_
    refine l_lds rfl Tryd.isAgg28 Tryd.sizeOf28 rfl rfl ?_
    refine l_take (MapG kvP m lv) ?_
    refine l_take (SegQ 102 none (y) none) ?_
    refine l_take (Blk sb (.cells [Value.int .i64 room, .map (some m), .pointer (fstPQ (y) none), .pointer (lstPQ (y) none)].toArray 55 (0, 0))) ?_
    refine l_call rfl Tryd.call37 rfl (peek_any_pt _ _ sb m room lv y hS2 (p, q)) ?_; rintro _ _ ⟨rfl, rfl⟩
    rw [hQ2, delG_has]
    refine l_move rfl rfl ?_
    refine l_extract rfl rfl rfl ?_
    refine l_extract rfl rfl rfl ?_
    refine l_assign rfl rfl ?_
    refine l_assign rfl rfl ?_
    refine l_nil ?_
    refine g_seq ?_
    refine g_region ?_
    refine l_move rfl rfl ?_
    refine l_not rfl rfl ?_
    refine l_assign rfl rfl ?_
    refine l_nil ?_
    refine g_ret Tryd.func10 rfl (.tmp rfl .nil) ?_
    exact Gives.mki ⟨y, lv, (by first | rfl | (simp [resVal, toldP]; done) | (simp_all [resVal, toldP]; done)), hS2, by rw [← pQ_len, hQ2]; have := delG_le (pQ xs) (p, q); rw [pQ_len] at this; omega, rfl⟩
  intro hbr
  have hbr := of_decide_eq_false hbr
  refine g_skip ?_
  refine g_inBlock ?_
  refine g_seq ?_
  refine g_region ?_
  refine l_assign rfl rfl ?_
  refine l_nil ?_
  refine g_ret Tryd.func10 rfl (.tmp rfl .nil) ?_
  exact Gives.mki ⟨xs, kv, rfl, hS, hl, rfl⟩
end Go.Proofs.YtjfibfbknfeflaaDoor.Fw
