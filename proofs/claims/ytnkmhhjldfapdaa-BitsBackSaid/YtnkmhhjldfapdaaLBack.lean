import Derived.Test.YtnkmhhjldfapdaaItems
import Derived.Test.YtnkmhhjldfapdaaPacks
namespace Go.Proofs.Ytnkmhhjldfapdaa.Fw
open Go Go.Proofs
set_option linter.unusedVariables false
set_option linter.unusedSimpArgs false
set_option maxRecDepth 10000

theorem CutI.next {L : List Item} {nn i : Nat} {fell : Bool} {p q : Int} (h : CutI L nn i fell p q) (hle : (encs L (i + 1)).length ≤ nn) : fell = false ∧ q = 0 ∧ p = (encs L i).length ∧ CutI L nn (i + 1) fell ((encs L (i + 1)).length : Int) 0 := by
  have hl := encs_snoc_len L i
  rcases h with ⟨hf, hq, hp, hpn⟩ | ⟨_, _, _, _, h⟩
  · exact ⟨hf, hq, hp, .inl ⟨hf, rfl, rfl, by omega⟩⟩
  · omega
theorem CutI.fall {L : List Item} {nn i : Nat} {fell : Bool} {p q : Int} (h : CutI L nn i fell p q) (hle : nn < (encs L (i + 1)).length) : CutI L nn (i + 1) true p 12 := by
  rcases h with ⟨_, _, hp, hpn⟩ | ⟨_, _, h0, h1, _⟩
  · exact .inr ⟨rfl, rfl, by omega, by omega, hle⟩
  · exact .inr ⟨rfl, rfl, h0, h1, hle⟩
theorem CutI.bd {L : List Item} {nn i : Nat} {fell : Bool} {p q : Int} (h : CutI L nn i fell p q) : 0 ≤ p ∧ p ≤ nn ∧ 0 ≤ q ∧ q ≤ 20 := by
  rcases h with ⟨_, _, hp, hpn⟩ | ⟨_, _, h0, h1, _⟩ <;> omega
theorem CutI.done {L : List Item} {nn n : Nat} {fell : Bool} {p q : Int} (h : CutI L nn n fell p q) (hn : nn < (encs L n).length) : fell = true ∧ q = 12 := by
  rcases h with ⟨_, _, hp, hpn⟩ | ⟨h1, h2, _⟩
  · omega
  · exact ⟨h1, h2⟩
theorem cut_reads {w0 : World} {F : List Atom} {E g n cap nn cap2 : Nat} {B : List Int} (hm : Own E 1 (.slice (some ⟨g, 0, none⟩) n cap) n (ints .u8 B) ∈ F) (hn : nn ≤ B.length) : Reads w0 F (.slice (some ⟨g, 0, none⟩) nn cap2) nn 1 (ints .u8 (B.take nn)) := by
  refine ⟨by rw [ints_length, List.length_take]; omega, .inl ⟨_, _, _, rfl, ?_⟩⟩
  have := (RowAt.own (w0 := w0) hm).mid 0 nn
  rw [List.drop_zero, ints_take] at this
  exact this
theorem kind_short {o : Item} (h : pickV o.1 4 ≠ 3) : (pickV o.1 4 = 0 ∧ (enc o).length = 1) ∨ (pickV o.1 4 = 1 ∧ (enc o).length = 4) ∨ (pickV o.1 4 = 2 ∧ (enc o).length = 8) := by
  rcases enc_cases o with h1 | h1 | h1 | h1
  · exact .inl h1
  · exact .inr (.inl h1)
  · exact .inr (.inr h1)
  · exact absurd h1.1 h
set_option maxHeartbeats 4000000 in
theorem back_ok (w0 : World) (F : List Atom) (a : Option Addr) (n c : Nat) (L : List Item) (hI : ItR w0 F a n L) (hok : ∀ o ∈ L, ItOk o) (hz : ∀ i, i < n → (iat L i).2.2.size ≤ 140737488355328) (hn : n ≤ 9223372036854775807) (cut : Int) (ct0 : -9223372036854775808 ≤ cut) (ct1 : cut ≤ 9223372036854775807) (wa : Option Addr) (wn wc : Nat) (W : List Int) (hW : IR w0 F .u32 wa wn W) (hU : W32s W) (hwn : wn ≤ 9223372036854775807) :
    CallK Try.prog 8 [.slice a n c, .int .i64 cut, .slice wa wn wc] w0 (F) (Gives w0 fun v F2 => v = .bool true ∧ F2 = F) := by
  have hl := hI.1
  have hWl := hW.1
  have htn := tot_ge L n
  refine c_enter Try.func8 rfl rfl rfl ?_
  refine g_seq ?_
  refine g_region ?_
  refine l_assign rfl rfl ?_
  refine l_nil ?_
  refine g_seq ?_
  refine g_seq ?_
  refine g_region ?_
  refine l_call rfl Try.call9 rfl (fixed_ok _ _) ?_; rintro _ F9 ⟨rfl, hF9⟩; rw [hF9]; clear hF9 F9
  refine l_not rfl rfl ?_
  refine l_nil ?_
  refine g_cond_f rfl ?_
  refine g_skip ?_
  refine g_seq ?_
  refine g_seq ?_
  refine g_region ?_
  refine l_move rfl rfl ?_
  refine l_call rfl Try.call24 rfl (much_ok _ _ a n c L hI.ex hz (by omega)) ?_; rintro _ F9 ⟨mb, rfl, hF9, hmb⟩; rw [hF9]; clear hF9 F9
  refine l_move rfl rfl ?_
  refine l_split 30 rfl ?_ ?_
  · intro hbr
    have hb30 := hbr
    refine l_guard_no rfl rfl rfl ?_
    refine l_guard_no rfl rfl rfl ?_
    refine l_guard_no rfl rfl rfl ?_
    refine l_pick_t rfl rfl rfl ?_
    refine l_nil ?_
    refine g_cond_t rfl ?_
    refine g_seq ?_
    refine g_region ?_
    refine l_assign rfl rfl ?_
    refine l_nil ?_
    refine g_ret Try.func8 rfl (.tmp rfl .nil) ?_
    exact Gives.mki ⟨rfl, rfl⟩
  intro hbr
  have hb30 := hbr
  refine l_guard_yes rfl rfl ?_
  refine l_move rfl rfl ?_
  refine l_guard_yes rfl rfl ?_
  refine l_len rfl Try.underlying54 rfl ?_
  refine l_guard_yes rfl rfl ?_
  refine l_gtr rfl rfl rfl ?_
  refine l_pick_f rfl rfl rfl ?_
  refine l_nil ?_
  refine g_cond rfl ?_ ?_
  · intro hbr
    have hbr := of_decide_eq_true hbr
    refine g_seq ?_
    refine g_region ?_
    refine l_assign rfl rfl ?_
    refine l_nil ?_
    refine g_ret Try.func8 rfl (.tmp rfl .nil) ?_
    exact Gives.mki ⟨rfl, rfl⟩
  intro hbr
  have hbr := of_decide_eq_false hbr
  refine g_skip ?_
  refine g_seq ?_
  refine g_region ?_
  have ht : tot L n ≤ 2147483647 := hmb (by assumption)
  clear hmb
  refine l_call rfl Try.call25 rfl (neww_ok _ _) ?_; rintro _ _ ⟨bw, br, rfl, hF9⟩; rw [hF9]; clear hF9
  refine l_assign rfl rfl ?_
  refine l_nil ?_
  refine g_seq ?_
  refine g_region ?_
  refine l_assign rfl rfl ?_
  refine l_nil ?_
  refine g_seq ?_
  refine g_seq ?_
  refine g_region ?_
  refine l_assign rfl rfl ?_
  refine l_nil ?_
  refine g_block ?_
  refine g_own_nil 3 1 ?_
  refine g_loopk (X := Int × Option Addr × Nat × Option Addr × Nat) [(0, _), (1, _), (2, _), (6, _), (7, _)] (.cons rfl (.cons rfl (.cons rfl (.cons rfl (.cons rfl (.nil)))))) (fun z => 0 ≤ z.1 ∧ z.1 ≤ n ∧ ((encs L z.1.toNat).length = 0 ∨ ∃ g, z.2.1 = some ⟨g, 0, none⟩) ∧ (z.1.toNat = 0 ∨ ∃ g, z.2.2.2.1 = some ⟨g, 0, none⟩)) (fun z => (n - z.1).toNat) (fun z => [(8, .slice z.2.2.2.1 z.1.toNat z.2.2.2.2), (9, .int .i64 z.1)]) (fun z => Own 3 1 (.slice z.2.2.2.1 z.1.toNat z.2.2.2.2) z.1.toNat (ints .i64 (endsL L z.1.toNat)) :: Blk bw (.cells [Value.pointer (some ⟨br, 0, none⟩)].toArray 111 (0, 0)) :: Blk br (.cells [Value.slice z.2.1 (encs L z.1.toNat).length z.2.2.1, .int .i64 0].toArray 109 (0, 0)) :: Own 5 1 (.slice z.2.1 (encs L z.1.toNat).length z.2.2.1) (encs L z.1.toNat).length (ints .u8 (encs L z.1.toNat)) :: F) ((0, none, 0, none, 0)) (⟨by simp only; omega, by simp only; omega, .inl rfl, .inl rfl⟩) (.cons rfl (.cons rfl .nil)) ((fun w hw => hw)) ?_
  rintro ⟨i, a1, c1, ea, ec⟩ ⟨i0, i1, ha1, hea⟩ ih
  dsimp only [List.cons_append, List.nil_append] at ih ⊢
  simp only at i0 i1 ha1 hea
  have hi1 : 0 ≤ i → (i + 1).toNat = i.toNat + 1 := fun h => by omega
  have hi1 := hi1 i0
  refine g_seq ?_
  refine g_seq ?_
  refine g_region ?_
  refine l_move rfl rfl ?_
  refine l_move rfl rfl ?_
  refine l_len rfl Try.underlying59 rfl ?_
  refine l_lss rfl rfl rfl ?_
  refine l_nil ?_
  refine g_cond rfl ?_ ?_
  · intro hbr
    have hbr := of_decide_eq_true hbr
    refine g_skip ?_
    refine g_seq ?_
    refine g_block ?_
    refine g_seq ?_
    refine g_region ?_
    refine l_move rfl rfl ?_
    refine l_move rfl rfl ?_
    refine l_move rfl rfl ?_
    obtain ⟨b9, o9, rfl, hr9⟩ := hI.row (i := i.toNat) (by omega)
    refine l_ixs rfl Try.underlying59 Try.sizeOf66 rfl rfl (by omega) (by omega) ?_
    refine l_loadr (l := itV (iat L i.toNat)) rfl Try.isAgg66 Try.sizeOf66 rfl rfl (row_elem hr9.ex (itV_len L) (itV_at (by omega))) ?_
    have hi2 : i.toNat < n := by omega
    have het := encs_tot L i.toNat
    have hsl := encs_snoc_len L i.toNat
    have htl := tot_le L (j := i.toNat) (k := n) (by omega)
    have hio := it_mem hok (i := i.toNat) (by omega)
    have hsz := tot_item (L := L) (i := i.toNat) (N := n) hi2
    have hel := encs_le L (j := i.toNat + 1) (k := n) hi2
    have hel0 := encs_le L (j := i.toNat) (k := n) (by omega)
    refine l_frontv (.slice a1 (encs L i.toNat).length c1) ?_
    refine l_frontb br ?_
    refine l_frontb bw ?_
    refine l_call rfl Try.call26 rfl (write_ok _ _ bw br a1 _ c1 (encs L i.toNat) rfl ha1 (by omega) (iat L i.toNat).1 (iat L i.toNat).2.1 (iat L i.toNat).2.2 hio.1 hio.2.1 hio.2.2.1 hio.2.2.2 (by omega) (encs L (i + 1).toNat) (by rw [hi1]; rfl) (encs L (i + 1).toNat).length (by rw [hi1, encs_snoc_len])) ?_; rintro _ _ ⟨a2, c2, ha2, rfl⟩
    refine l_nil ?_
    refine g_seq ?_
    refine g_region ?_
    refine l_move rfl rfl ?_
    refine l_inl rfl Try.call27 rfl ?_
    refine c_enter Try.func27 rfl rfl rfl ?_
    refine g_seq ?_
    refine g_region ?_
    refine l_assign rfl rfl ?_
    refine l_nil ?_
    refine g_seq ?_
    refine g_seq ?_
    refine g_region ?_
    refine l_move rfl rfl ?_
    refine l_eqpn rfl Try.underlying61 rfl rfl ?_
    refine l_nil ?_
    refine g_cond_f rfl ?_
    refine g_skip ?_
    refine g_seq ?_
    refine g_region ?_
    refine l_move rfl rfl ?_
    refine l_nilCheck rfl rfl ?_
    refine l_fieldAddr rfl fa_111_0 rfl ?_
    refine l_ld rfl Try.isAgg107 rfl rfl ?_
    refine l_inl rfl Try.call72 rfl ?_
    refine c_enter Try.func72 rfl rfl rfl ?_
    refine g_seq ?_
    refine g_region ?_
    refine l_assign rfl rfl ?_
    refine l_nil ?_
    refine g_seq ?_
    refine g_seq ?_
    refine g_region ?_
    refine l_move rfl rfl ?_
    refine l_eqpn rfl Try.underlying107 rfl rfl ?_
    refine l_nil ?_
    refine g_cond_f rfl ?_
    refine g_skip ?_
    refine g_seq ?_
    refine g_region ?_
    refine l_move rfl rfl ?_
    refine l_nilCheck rfl rfl ?_
    refine l_fieldAddr rfl fa_109_0 rfl ?_
    refine l_ld rfl Try.isAgg36 rfl rfl ?_
    refine l_len rfl Try.underlying36 rfl ?_
    refine l_assign rfl rfl ?_
    refine l_nil ?_
    refine g_ret Try.func72 rfl (.tmp rfl .nil) ?_
    first | refine ⟨.int _ _, rfl, ?_⟩ | refine ⟨_, rfl, ?_⟩
    refine l_assign rfl rfl ?_
    refine l_nil ?_
    refine g_ret Try.func27 rfl (.tmp rfl .nil) ?_
    first | refine ⟨.int _ _, rfl, ?_⟩ | refine ⟨_, rfl, ?_⟩
    refine l_assign rfl rfl ?_
    refine l_nil ?_
    refine g_region ?_
    refine l_move rfl rfl ?_
    refine l_move rfl rfl ?_
    refine l_buildSlice rfl Try.underlying63 Try.sizeOf3 Try.zeroValue3 rfl rfl rfl rfl rfl rfl ?_; intro b52
    refine l_does rfl (does_apps 4 (by_ := 8) (kd := .i64) (V := endsL L i.toNat) (W := [((encs L (i + 1).toNat).length : Int)]) (m := i.toNat) (m2 := 1) (m3 := (i + 1).toNat) (V3 := endsL L (i + 1).toNat) Try.underlying63 Try.type3 rfl rfl rfl rfl rfl rfl rfl ⟨rfl, .inl ⟨_, _, _, rfl, .own (mem_getO 0 rfl)⟩⟩ (by omega) (by simp only [maxLen]; omega) (by omega) (by rw [hi1]; exact endsL_succ L _) (fun _ _ => rfl)) ?_
    rintro _ _ ⟨a53, c53, ha53, hn53, rfl, rfl⟩
    refine l_assign rfl rfl ?_
    refine l_nil ?_
    refine g_inBlock ?_
    refine g_region ?_
    refine l_move rfl rfl ?_
    first | refine l_add rfl rfl rfl (w_i64 (by omega) (by omega)) ?_ | refine l_addw rfl rfl rfl ?_
    refine l_assign rfl rfl ?_
    refine l_nil ?_
    exact g_againi (ih (i + 1, a2, c2, a53, c53) ⟨by simp only; omega, by simp only; omega, ha2, ha53⟩ (by simp only; omega)) (.cons rfl (.cons rfl (.cons rfl (.cons rfl (.cons rfl (.cons rfl (.cons rfl (.nil))))))))
  intro hbr
  have hbr := of_decide_eq_false hbr
  refine g_exit rfl ?_
  obtain rfl : i = n := by omega
  rw [Int.toNat_natCast] at ha1 hea ⊢
  have het := encs_tot L n
  refine g_seq ?_
  refine g_region ?_
  refine l_move rfl rfl ?_
  refine l_frontv (.slice a1 (encs L n).length c1) ?_
  refine l_frontb br ?_
  refine l_frontb bw ?_
  refine l_call rfl Try.call28 rfl (out_ok _ _ bw br a1 _ c1 (encs L n) rfl ha1 (by omega)) ?_; rintro _ _ ⟨go, rfl, rfl⟩
  clear ha1
  refine l_assign rfl rfl ?_
  refine l_nil ?_
  refine g_seq ?_
  refine g_region ?_
  refine l_move rfl rfl ?_
  refine l_call rfl Try.call29 rfl (newr_ok _ _ (some ⟨go, 0, none⟩) _ _ (encs L n) rfl (by omega) (.own (by rw [ints_length, Nat.mul_one]) (.inr ⟨_, _, rfl⟩) (mem_getO 0 rfl))) ?_; rintro _ _ ⟨bq, bs, g, rfl, rfl⟩
  refine l_assign rfl rfl ?_
  refine l_nil ?_
  refine g_seq ?_
  refine g_seq ?_
  refine g_region ?_
  refine l_assign rfl rfl ?_
  refine l_nil ?_
  refine g_block ?_
  refine g_loopk (X := Int) [(0, _), (1, _), (2, _), (8, _), (11, _), (12, _)] (.cons rfl (.cons rfl (.cons rfl (.cons rfl (.cons rfl (.cons rfl (.nil))))))) (fun i => 0 ≤ i ∧ i ≤ n) (fun i => (n - i).toNat) (fun i => [(13, .int .i64 i)]) (fun i => Blk bq (.cells [Value.pointer (some ⟨bs, 0, none⟩), .int .i64 0].toArray 113 (0, 0)) :: Blk bs (.cells [Value.slice (some ⟨g, 0, none⟩) (encs L n).length (encs L n).length, .int .i64 ((encs L i.toNat).length : Int)].toArray 109 (0, 0)) :: Own 5 1 (.slice (some ⟨g, 0, none⟩) (encs L n).length (encs L n).length) (encs L n).length (ints .u8 (encs L n)) :: Own 5 1 (.slice (some ⟨go, 0, none⟩) (encs L n).length (encs L n).length) (encs L n).length (ints .u8 (encs L n)) :: Blk bw (.cells [Value.pointer (some ⟨br, 0, none⟩)].toArray 111 (0, 0)) :: Blk br (.cells [Value.slice a1 (encs L n).length c1, .int .i64 0].toArray 109 (0, 0)) :: Own 5 1 (.slice a1 (encs L n).length c1) (encs L n).length (ints .u8 (encs L n)) :: Own 3 1 (.slice ea n ec) n (ints .i64 (endsL L n)) :: F) (0) (by omega) (.cons rfl .nil) ((fun w hw => hw)) ?_
  rintro i ⟨i0, i1⟩ ih
  dsimp only [List.cons_append, List.nil_append] at ih ⊢
  have hi1 : 0 ≤ i → (i + 1).toNat = i.toNat + 1 := fun h => by omega
  have hi1 := hi1 i0
  refine g_seq ?_
  refine g_seq ?_
  refine g_region ?_
  refine l_move rfl rfl ?_
  refine l_move rfl rfl ?_
  refine l_len rfl Try.underlying59 rfl ?_
  refine l_lss rfl rfl rfl ?_
  refine l_nil ?_
  refine g_cond rfl ?_ ?_
  · intro hbr
    have hbr := of_decide_eq_true hbr
    refine g_skip ?_
    refine g_seq ?_
    refine g_block ?_
    refine g_seq ?_
    refine g_region ?_
    refine l_move rfl rfl ?_
    refine l_move rfl rfl ?_
    refine l_move rfl rfl ?_
    obtain ⟨b9, o9, rfl, hr9⟩ := hI.row (i := i.toNat) (by omega)
    refine l_ixs rfl Try.underlying59 Try.sizeOf66 rfl rfl (by omega) (by omega) ?_
    refine l_loadr (l := itV (iat L i.toNat)) rfl Try.isAgg66 Try.sizeOf66 rfl rfl (row_elem hr9.ex (itV_len L) (itV_at (by omega))) ?_
    have hi2 : i.toNat < n := by omega
    have het := encs_tot L i.toNat
    have hsl := encs_snoc_len L i.toNat
    have htl := tot_le L (j := i.toNat) (k := n) (by omega)
    have hio := it_mem hok (i := i.toNat) (by omega)
    have hsz := tot_item (L := L) (i := i.toNat) (N := n) hi2
    have hel := encs_le L (j := i.toNat + 1) (k := n) hi2
    have hel0 := encs_le L (j := i.toNat) (k := n) (by omega)
    obtain ⟨post, hpost⟩ := encs_at L (i := i.toNat) (k := n) (by omega)
    refine l_call rfl Try.call30 rfl (reads_whole _ _ bq bs g _ (encs L n) rfl (encs_u8 L n) (by omega) (iat L i.toNat).1 (iat L i.toNat).2.1 (iat L i.toNat).2.2 hio.1 hio.2.1 hio.2.2.1 hio.2.2.2 (by omega) (encs L i.toNat) post hpost _ ((encs L (i + 1).toNat).length : Int) rfl (by rw [hi1, encs_snoc_len]; exact Int.natCast_add _ _)) ?_; rintro _ _ ⟨rfl, rfl⟩
    refine l_assign rfl rfl ?_
    refine l_nil ?_
    refine g_seq ?_
    refine g_region ?_
    refine l_move rfl rfl ?_
    refine l_inl rfl Try.call31 rfl ?_
    refine c_enter Try.func31 rfl rfl rfl ?_
    refine g_seq ?_
    refine g_region ?_
    refine l_assign rfl rfl ?_
    refine l_nil ?_
    refine g_seq ?_
    refine g_seq ?_
    refine g_region ?_
    refine l_move rfl rfl ?_
    refine l_eqpn rfl Try.underlying69 rfl rfl ?_
    refine l_nil ?_
    refine g_cond_f rfl ?_
    refine g_skip ?_
    refine g_seq ?_
    refine g_region ?_
    refine l_move rfl rfl ?_
    refine l_nilCheck rfl rfl ?_
    refine l_fieldAddr rfl fa_113_0 rfl ?_
    refine l_ld rfl Try.isAgg107 rfl rfl ?_
    refine l_inl rfl Try.call73 rfl ?_
    refine c_enter Try.func73 rfl rfl rfl ?_
    refine g_seq ?_
    refine g_region ?_
    refine l_assign rfl rfl ?_
    refine l_nil ?_
    refine g_seq ?_
    refine g_seq ?_
    refine g_region ?_
    refine l_move rfl rfl ?_
    refine l_eqpn rfl Try.underlying107 rfl rfl ?_
    refine l_nil ?_
    refine g_cond_f rfl ?_
    refine g_skip ?_
    refine g_seq ?_
    refine g_region ?_
    refine l_move rfl rfl ?_
    refine l_nilCheck rfl rfl ?_
    refine l_fieldAddr rfl fa_109_1 rfl ?_
    first | refine l_ld rfl Try.isAgg3 rfl rfl ?_ | refine l_ldw rfl Try.isAgg3 rfl (by omega) ?_
    refine l_assign rfl rfl ?_
    refine l_nil ?_
    refine g_ret Try.func73 rfl (.tmp rfl .nil) ?_
    first | refine ⟨.int _ _, rfl, ?_⟩ | refine ⟨_, rfl, ?_⟩
    refine l_assign rfl rfl ?_
    refine l_nil ?_
    refine g_ret Try.func31 rfl (.tmp rfl .nil) ?_
    first | refine ⟨.int _ _, rfl, ?_⟩ | refine ⟨_, rfl, ?_⟩
    refine l_assign rfl rfl ?_
    refine l_nil ?_
    refine g_seq ?_
    refine g_region ?_
    refine l_move rfl rfl ?_
    refine l_not rfl rfl ?_
    refine l_move rfl rfl ?_
    refine l_guard_yes rfl rfl ?_
    refine l_move rfl rfl ?_
    refine l_guard_yes rfl rfl ?_
    refine l_move rfl rfl ?_
    refine l_guard_yes rfl rfl ?_
    refine l_move rfl rfl ?_
    refine l_guard_yes rfl rfl ?_
    obtain ⟨ge, rfl⟩ := hea.resolve_left (by omega)
    refine l_ixs rfl Try.underlying63 Try.sizeOf3 rfl rfl (by omega) (by omega) ?_
    refine l_guard_yes rfl rfl ?_
    refine l_loadc rfl Try.isAgg3 rfl (word_at (mem_getO 7 rfl) (by rw [endsL_len]; omega)) ?_
    rw [endsL_get (show i.toNat < n by omega), ← hi1]
    refine l_guard_yes rfl rfl ?_
    refine l_neq rfl rfl rfl ?_
    refine l_pick_f rfl rfl rfl ?_
    refine l_nil ?_
    refine g_cond rfl ?_ ?_
    · intro hbr
      have hbr := of_decide_eq_true hbr
      (exfalso; omega)
    intro hbr
    have hbr := of_decide_eq_false hbr
    refine g_skip ?_
    refine g_inBlock ?_
    refine g_region ?_
    refine l_move rfl rfl ?_
    first | refine l_add rfl rfl rfl (w_i64 (by omega) (by omega)) ?_ | refine l_addw rfl rfl rfl ?_
    refine l_assign rfl rfl ?_
    refine l_nil ?_
    exact g_againi (ih (i + 1) (by omega) (by omega)) (.cons rfl (.cons rfl (.cons rfl (.cons rfl (.cons rfl (.cons rfl (.cons rfl (.nil))))))))
  intro hbr
  have hbr := of_decide_eq_false hbr
  refine g_exit rfl ?_
  obtain rfl : i = n := by omega
  rw [Int.toNat_natCast]
  refine g_seq ?_
  refine g_seq ?_
  refine g_region ?_
  refine l_move rfl rfl ?_
  refine l_call rfl Try.call32 rfl (rend_ok _ _ bq bs g _ (encs L n) rfl (encs_u8 L n) (by omega) ((encs L n).length : Int) 0 (by omega) (by omega) (by omega) (by omega)) ?_; rintro _ _ ⟨rfl, rfl⟩
  rw [show endV (encs L n).length ((encs L n).length : Int) 0 = 0 by unfold endV; rw [if_neg (by omega), if_neg (by omega)]]
  refine l_neq rfl rfl rfl ?_
  refine l_move rfl rfl ?_
  refine l_split 85 rfl ?_ ?_
  · intro hbr
    have hbr := of_decide_eq_true hbr
    (exfalso; omega)
  intro hbr
  have hbr := of_decide_eq_false hbr
  refine l_guard_yes rfl rfl ?_
  refine l_move rfl rfl ?_
  refine l_guard_yes rfl rfl ?_
  refine l_inl rfl Try.call33 rfl ?_
  refine c_enter Try.func33 rfl rfl rfl ?_
  refine g_seq ?_
  refine g_region ?_
  refine l_assign rfl rfl ?_
  refine l_nil ?_
  refine g_seq ?_
  refine g_seq ?_
  refine g_region ?_
  refine l_move rfl rfl ?_
  refine l_eqpn rfl Try.underlying69 rfl rfl ?_
  refine l_nil ?_
  refine g_cond_f rfl ?_
  refine g_skip ?_
  refine g_seq ?_
  refine g_region ?_
  refine l_move rfl rfl ?_
  refine l_nilCheck rfl rfl ?_
  refine l_fieldAddr rfl fa_113_0 rfl ?_
  refine l_ld rfl Try.isAgg107 rfl rfl ?_
  refine l_inl rfl Try.call74 rfl ?_
  refine c_enter Try.func74 rfl rfl rfl ?_
  refine g_seq ?_
  refine g_region ?_
  refine l_assign rfl rfl ?_
  refine l_nil ?_
  refine g_seq ?_
  refine g_seq ?_
  refine g_region ?_
  refine l_move rfl rfl ?_
  refine l_eqpn rfl Try.underlying107 rfl rfl ?_
  refine l_nil ?_
  refine g_cond_f rfl ?_
  refine g_skip ?_
  refine g_seq ?_
  refine gp_start mo (by kernel_rfl) (by kernel_rfl) ?_
  refine gp_quiet 0 rfl rfl rfl rfl rfl rfl (q_move rfl) ?_
  refine gp_quiet 1 rfl rfl rfl rfl rfl rfl (q_nilCheck rfl) ?_
  refine gp_quiet 2 rfl rfl rfl rfl rfl rfl (q_fieldAddr fa_109_0 rfl) ?_
  refine gp_quiet 3 rfl rfl rfl rfl rfl rfl (q_ld Try.isAgg36 rfl rfl) ?_
  refine gp_quiet 4 rfl rfl rfl rfl rfl rfl (q_len Try.underlying36 rfl) ?_
  refine gp_quiet 5 rfl rfl rfl rfl rfl rfl (q_move rfl) ?_
  refine gp_quiet 6 rfl rfl rfl rfl rfl rfl (q_nilCheck rfl) ?_
  refine gp_quiet 7 rfl rfl rfl rfl rfl rfl (q_fieldAddr fa_109_1 rfl) ?_
  first | refine gp_quiet 8 rfl rfl rfl rfl rfl rfl (q_ld Try.isAgg3 rfl rfl) ?_ | refine gp_quiet 8 rfl rfl rfl rfl rfl rfl (q_ldw Try.isAgg3 rfl (by omega)) ?_
  first | refine gp_quiet 9 rfl rfl rfl rfl rfl rfl (q_sub_ rfl rfl (w_i64 (by omega) (by omega))) ?_ | refine gp_quiet 9 rfl rfl rfl rfl rfl rfl (q_subw rfl rfl) ?_
  refine gp_quiet 10 rfl rfl rfl rfl rfl rfl (q_assign rfl) ?_
  refine gp_end rfl rfl ?_
  refine g_ret Try.func74 rfl (.tmp rfl .nil) ?_
  first | refine ⟨.int _ _, rfl, ?_⟩ | refine ⟨_, rfl, ?_⟩
  refine l_assign rfl rfl ?_
  refine l_nil ?_
  refine g_ret Try.func33 rfl (.tmp rfl .nil) ?_
  first | refine ⟨.int _ _, rfl, ?_⟩ | refine ⟨_, rfl, ?_⟩
  refine l_guard_yes rfl rfl ?_
  refine l_neq rfl rfl rfl ?_
  refine l_pick_f rfl rfl rfl ?_
  refine l_move rfl rfl ?_
  refine l_split 90 rfl ?_ ?_
  · intro hbr
    have hbr := of_decide_eq_true hbr
    (exfalso; omega)
  intro hbr
  have hbr := of_decide_eq_false hbr
  refine l_guard_yes rfl rfl ?_
  refine l_move rfl rfl ?_
  refine l_guard_yes rfl rfl ?_
  refine l_inl rfl Try.call34 rfl ?_
  refine c_enter Try.func34 rfl rfl rfl ?_
  refine g_seq ?_
  refine g_region ?_
  refine l_assign rfl rfl ?_
  refine l_nil ?_
  refine g_seq ?_
  refine g_seq ?_
  refine g_region ?_
  refine l_move rfl rfl ?_
  refine l_eqpn rfl Try.underlying69 rfl rfl ?_
  refine l_nil ?_
  refine g_cond_f rfl ?_
  refine g_skip ?_
  refine g_seq ?_
  refine g_region ?_
  refine l_move rfl rfl ?_
  refine l_nilCheck rfl rfl ?_
  refine l_fieldAddr rfl fa_113_1 rfl ?_
  first | refine l_ld rfl Try.isAgg26 rfl rfl ?_ | refine l_ldw rfl Try.isAgg26 rfl (by omega) ?_
  refine l_assign rfl rfl ?_
  refine l_nil ?_
  refine g_ret Try.func34 rfl (.tmp rfl .nil) ?_
  first | refine ⟨.int _ _, rfl, ?_⟩ | refine ⟨_, rfl, ?_⟩
  refine l_guard_yes rfl rfl ?_
  refine l_neq rfl rfl rfl ?_
  refine l_pick_f rfl rfl rfl ?_
  refine l_nil ?_
  refine g_cond rfl ?_ ?_
  · intro hbr
    have hbr := of_decide_eq_true hbr
    (exfalso; omega)
  intro hbr
  have hbr := of_decide_eq_false hbr
  refine g_skip ?_
  refine g_seq ?_
  refine g_seq ?_
  refine g_region ?_
  refine l_move rfl rfl ?_
  refine l_len rfl Try.underlying36 rfl ?_
  refine l_gtr rfl rfl rfl ?_
  refine l_nil ?_
  refine g_cond rfl ?_ ?_
  · intro hbr
    have hbr := of_decide_eq_true hbr
    refine g_seq ?_
    refine g_region ?_
    refine l_move rfl rfl ?_
    refine l_move rfl rfl ?_
    refine l_len rfl Try.underlying36 rfl ?_
    refine l_call rfl Try.call14 rfl (pick_ok _ _ cut ct0 ct1 ((encs L n).length : Int) (by omega) (by omega)) ?_; rintro _ F9 ⟨rfl, hF9⟩; rw [hF9]; clear hF9 F9
    have hpk := @pickV_bd cut ((encs L n).length : Int) (by omega)
    obtain ⟨nn, hnn⟩ := Int.eq_ofNat_of_zero_le hpk.1
    rw [hnn] at hpk ⊢
    have hnl : nn < (encs L n).length := by omega
    refine l_assign rfl rfl ?_
    refine l_nil ?_
    refine g_seq ?_
    refine g_region ?_
    refine l_move rfl rfl ?_
    refine l_move rfl rfl ?_
    refine l_slice_hi rfl Try.underlying36 Try.sizeOf5 rfl rfl (by omega) (by omega) ?_
    rw [Int.toNat_natCast]
    refine l_call rfl Try.call29 rfl (newr_ok _ _ (some ⟨go, 0, none⟩) nn _ ((encs L n).take nn) (cut_len (by omega)) (by omega) (cut_reads (mem_getO 3 rfl) (by omega))) ?_; rintro _ _ ⟨bq2, bs2, g2, rfl, rfl⟩
    refine l_assign rfl rfl ?_
    refine l_nil ?_
    refine g_seq ?_
    refine g_region ?_
    refine l_assign rfl rfl ?_
    refine l_nil ?_
    refine g_seq ?_
    refine g_seq ?_
    refine g_region ?_
    refine l_assign rfl rfl ?_
    refine l_nil ?_
    refine g_block ?_
    refine g_loopk (X := Int × Bool × Int × Int) [(0, _), (2, _), (8, _), (16, _), (17, _)] (.cons rfl (.cons rfl (.cons rfl (.cons rfl (.cons rfl (.nil)))))) (fun z => 0 ≤ z.1 ∧ z.1 ≤ n ∧ CutI L nn z.1.toNat z.2.1 z.2.2.1 z.2.2.2) (fun z => (n - z.1).toNat) (fun z => [(18, .bool z.2.1), (19, .int .i64 z.1)]) (fun z => Blk bq2 (.cells [Value.pointer (some ⟨bs2, 0, none⟩), .int .i64 z.2.2.2].toArray 113 (0, 0)) :: Blk bs2 (.cells [Value.slice (some ⟨g2, 0, none⟩) nn nn, .int .i64 z.2.2.1].toArray 109 (0, 0)) :: Own 5 1 (.slice (some ⟨g2, 0, none⟩) nn nn) nn (ints .u8 ((encs L n).take nn)) :: Own 3 1 (.slice ea n ec) n (ints .i64 (endsL L n)) :: F) ((0, false, 0, 0)) (⟨by simp only; omega, by simp only; omega, .inl ⟨rfl, rfl, rfl, by simp only; omega⟩⟩) (.cons rfl (.cons rfl .nil)) (fun w hw => SPI.holds hw) ?_
    rintro ⟨i, fell, p, q⟩ ⟨i0, i1, hC⟩ ih
    dsimp only [List.cons_append, List.nil_append] at ih ⊢
    simp only at i0 i1 hC
    have hCb := hC.bd
    have hi1 : 0 ≤ i → (i + 1).toNat = i.toNat + 1 := fun h => by omega
    have hi1 := hi1 i0
    refine g_seq ?_
    refine g_seq ?_
    refine g_region ?_
    refine l_move rfl rfl ?_
    refine l_move rfl rfl ?_
    refine l_len rfl Try.underlying59 rfl ?_
    refine l_lss rfl rfl rfl ?_
    refine l_nil ?_
    refine g_cond rfl ?_ ?_
    · intro hbr
      have hbr := of_decide_eq_true hbr
      refine g_skip ?_
      refine g_seq ?_
      refine g_block ?_
      refine g_seq ?_
      refine g_region ?_
      refine l_assign rfl rfl ?_
      refine l_nil ?_
      refine g_seq ?_
      refine g_seq ?_
      refine g_region ?_
      refine l_move rfl rfl ?_
      refine l_move rfl rfl ?_
      obtain ⟨ge, rfl⟩ := hea.resolve_left (by omega)
      refine l_ixs rfl Try.underlying63 Try.sizeOf3 rfl rfl (by omega) (by omega) ?_
      refine l_loadc rfl Try.isAgg3 rfl (word_at (mem_getO 3 rfl) (by rw [endsL_len]; omega)) ?_
      rw [endsL_get (show i.toNat < n by omega), ← hi1]
      refine l_move rfl rfl ?_
      refine l_leq rfl rfl rfl ?_
      refine l_nil ?_
      refine g_cond rfl ?_ ?_
      · intro hbr
        have hbr := of_decide_eq_true hbr
        refine g_region ?_
        refine l_move rfl rfl ?_
        refine l_move rfl rfl ?_
        refine l_move rfl rfl ?_
        obtain ⟨b9, o9, rfl, hr9⟩ := hI.row (i := i.toNat) (by omega)
        refine l_ixs rfl Try.underlying59 Try.sizeOf66 rfl rfl (by omega) (by omega) ?_
        refine l_loadr (l := itV (iat L i.toNat)) rfl Try.isAgg66 Try.sizeOf66 rfl rfl (row_elem hr9.ex (itV_len L) (itV_at (by omega))) ?_
        have hi2 : i.toNat < n := by omega
        have het := encs_tot L i.toNat
        have hsl := encs_snoc_len L i.toNat
        have htl := tot_le L (j := i.toNat) (k := n) (by omega)
        have hio := it_mem hok (i := i.toNat) (by omega)
        have hsz := tot_item (L := L) (i := i.toNat) (N := n) hi2
        have hel := encs_le L (j := i.toNat + 1) (k := n) hi2
        have hel0 := encs_le L (j := i.toNat) (k := n) (by omega)
        obtain ⟨hf, rfl, rfl, hnx⟩ := hC.next (by rw [← hi1]; omega)
        obtain ⟨post, hpost⟩ := cut_whole (L := L) (N := n) (nn := nn) (i := i.toNat) (by omega) (by rw [← hi1]; omega)
        refine l_call rfl Try.call30 rfl (reads_whole _ _ bq2 bs2 g2 _ ((encs L n).take nn) (cut_len (by omega)) (take_u8 (encs_bd L n) nn) (by omega) (iat L i.toNat).1 (iat L i.toNat).2.1 (iat L i.toNat).2.2 hio.1 hio.2.1 hio.2.2.1 hio.2.2.2 (by omega) (encs L i.toNat) post hpost _ ((encs L (i + 1).toNat).length : Int) rfl (by rw [hi1, encs_snoc_len]; exact Int.natCast_add _ _)) ?_; rintro _ _ ⟨rfl, rfl⟩
        refine l_assign rfl rfl ?_
        refine l_nil ?_
        refine g_seq ?_
        refine g_region ?_
        refine l_move rfl rfl ?_
        refine l_not rfl rfl ?_
        refine l_nil ?_
        refine g_cond_f rfl ?_
        refine g_skip ?_
        refine g_inBlock ?_
        refine g_region ?_
        refine l_move rfl rfl ?_
        first | refine l_add rfl rfl rfl (w_i64 (by omega) (by omega)) ?_ | refine l_addw rfl rfl rfl ?_
        refine l_assign rfl rfl ?_
        refine l_nil ?_
        (first
          | exact g_againi (ih (i + 1, fell, ((encs L (i + 1).toNat).length : Int), 0) ⟨by simp only; omega, by simp only; omega, by simp only; rw [hi1]; exact hnx⟩ (by simp only; omega)) (.cons rfl (.cons rfl (.cons rfl (.cons rfl (.cons rfl (.cons rfl (.cons rfl (.nil))))))))
          | exact g_againi (ih (i + 1, true, p, 12) ⟨by simp only; omega, by simp only; omega, by simp only; rw [hi1]; exact hC.fall (by rw [← hi1]; omega)⟩ (by simp only; omega)) (.cons rfl (.cons rfl (.cons rfl (.cons rfl (.cons rfl (.cons rfl (.cons rfl (.nil)))))))))
      intro hbr
      have hbr := of_decide_eq_false hbr
      refine g_seq ?_
      refine g_region ?_
      refine l_assign rfl rfl ?_
      refine l_nil ?_
      refine g_seq ?_
      refine g_region ?_
      refine l_move rfl rfl ?_
      refine l_move rfl rfl ?_
      obtain ⟨b9, o9, rfl, hr9⟩ := hI.row (i := i.toNat) (by omega)
      refine l_ixs rfl Try.underlying59 Try.sizeOf66 rfl rfl (by omega) (by omega) ?_
      refine l_loadr (l := itV (iat L i.toNat)) rfl Try.isAgg66 Try.sizeOf66 rfl rfl (row_elem hr9.ex (itV_len L) (itV_at (by omega))) ?_
      refine l_allocs rfl Try.zeroValue66 ?_; intro b21
      refine l_sts Try.sizeOf66 rfl rfl rfl rfl rfl ?_
      refine l_nil ?_
      refine g_seq ?_
      refine g_region ?_
      refine l_fieldAddr rfl fa_66_0 rfl ?_
      first | refine l_ld rfl Try.isAgg3 rfl rfl ?_ | refine l_ldw rfl Try.isAgg3 rfl (by omega) ?_
      have hi2 : i.toNat < n := by omega
      have het := encs_tot L i.toNat
      have hsl := encs_snoc_len L i.toNat
      have htl := tot_le L (j := i.toNat) (k := n) (by omega)
      have hio := it_mem hok (i := i.toNat) (by omega)
      have hsz := tot_item (L := L) (i := i.toNat) (N := n) hi2
      have hel := encs_le L (j := i.toNat + 1) (k := n) hi2
      have hel0 := encs_le L (j := i.toNat) (k := n) (by omega)
      refine l_call rfl Try.call14 rfl (pick_ok _ _ (iat L i.toNat).1 hio.1 hio.2.1 4 (by omega) (by omega)) ?_; rintro _ F9 ⟨rfl, hF9⟩; rw [hF9]; clear hF9 F9
      refine l_eql rfl rfl rfl ?_
      refine l_nil ?_
      refine g_cond rfl ?_ ?_
      · intro hbr
        have hbr := of_decide_eq_true hbr
        refine g_seq ?_
        refine g_region ?_
        refine l_move rfl rfl ?_
        refine l_fieldAddr rfl fa_66_2 rfl ?_
        refine l_ld rfl Try.isAgg9 rfl rfl ?_
        refine l_lens rfl Try.underlying9 rfl ?_
        refine l_fronto g2 ?_
        refine l_frontb bs2 ?_
        refine l_frontb bq2 ?_
        refine l_call rfl Try.call35 rfl (rtext_ok _ _ bq2 bs2 g2 nn _ (cut_len (by omega)) (take_u8 (encs_bd L n) nn) (by omega) p q (by omega) (by omega) (by omega) (by omega) ((iat L i.toNat).2.2.size : Int) (by omega) (by omega)) ?_; rintro _ _ ⟨T, p2, q2, hR, rfl, rfl⟩
        rw [hC.text (N := n) (by omega) (by omega) (by omega) (by omega) (by rw [← hi1]; omega)] at hR
        injection hR with hR1 hR2
        injection hR2 with hR2 hR3
        subst hR1 hR2 hR3
        rw [show strOfNums [] = (⟨#[]⟩ : ByteArray) from rfl]
        refine l_assign rfl rfl ?_
        refine l_nil ?_
        refine g_region ?_
        refine l_move rfl rfl ?_
        refine l_eqls rfl rfl rfl ?_
        rw [show ((⟨#[]⟩ : ByteArray).toList == (⟨#[]⟩ : ByteArray).toList) = true from beq_self_eq_true _]
        refine l_assign rfl rfl ?_
        refine l_nil ?_
        refine g_seq ?_
        refine g_region ?_
        refine l_move rfl rfl ?_
        refine l_not rfl rfl ?_
        refine l_nil ?_
        refine g_cond_f rfl ?_
        refine g_skip ?_
        refine g_inBlock ?_
        refine g_region ?_
        refine l_move rfl rfl ?_
        first | refine l_add rfl rfl rfl (w_i64 (by omega) (by omega)) ?_ | refine l_addw rfl rfl rfl ?_
        refine l_assign rfl rfl ?_
        refine l_nil ?_
        (first
          | exact g_againi (ih (i + 1, fell, ((encs L (i + 1).toNat).length : Int), 0) ⟨by simp only; omega, by simp only; omega, by simp only; rw [hi1]; exact hnx⟩ (by simp only; omega)) (.cons rfl (.cons rfl (.cons rfl (.cons rfl (.cons rfl (.cons rfl (.cons rfl (.nil))))))))
          | exact g_againi (ih (i + 1, true, p, 12) ⟨by simp only; omega, by simp only; omega, by simp only; rw [hi1]; exact hC.fall (by rw [← hi1]; omega)⟩ (by simp only; omega)) (.cons rfl (.cons rfl (.cons rfl (.cons rfl (.cons rfl (.cons rfl (.cons rfl (.nil)))))))))
      intro hbr
      have hbr := of_decide_eq_false hbr
      refine g_region ?_
      refine l_move rfl rfl ?_
      refine l_lds rfl Try.isAgg66 Try.sizeOf66 rfl rfl ?_
      refine l_fronto g2 ?_
      refine l_frontb bs2 ?_
      refine l_frontb bq2 ?_
      refine l_call rfl Try.call36 rfl (zero_none _ _ bq2 bs2 g2 nn _ (cut_len (by omega)) (take_u8 (encs_bd L n) nn) (by omega) (iat L i.toNat).1 hio.1 hio.2.1 p q (by omega) (by omega) (enc (iat L i.toNat)).length (kind_short (by omega)) (hC.short (N := n) (by omega) (by rw [← hi1]; omega)) (iat L i.toNat).2.1 (iat L i.toNat).2.2) ?_; rintro _ _ ⟨rfl, rfl⟩
      refine l_assign rfl rfl ?_
      refine l_nil ?_
      refine g_seq ?_
      refine g_region ?_
      refine l_move rfl rfl ?_
      refine l_not rfl rfl ?_
      refine l_nil ?_
      refine g_cond_f rfl ?_
      refine g_skip ?_
      refine g_inBlock ?_
      refine g_region ?_
      refine l_move rfl rfl ?_
      first | refine l_add rfl rfl rfl (w_i64 (by omega) (by omega)) ?_ | refine l_addw rfl rfl rfl ?_
      refine l_assign rfl rfl ?_
      refine l_nil ?_
      (first
        | exact g_againi (ih (i + 1, fell, ((encs L (i + 1).toNat).length : Int), 0) ⟨by simp only; omega, by simp only; omega, by simp only; rw [hi1]; exact hnx⟩ (by simp only; omega)) (.cons rfl (.cons rfl (.cons rfl (.cons rfl (.cons rfl (.cons rfl (.cons rfl (.nil))))))))
        | exact g_againi (ih (i + 1, true, p, 12) ⟨by simp only; omega, by simp only; omega, by simp only; rw [hi1]; exact hC.fall (by rw [← hi1]; omega)⟩ (by simp only; omega)) (.cons rfl (.cons rfl (.cons rfl (.cons rfl (.cons rfl (.cons rfl (.cons rfl (.nil)))))))))
    intro hbr
    have hbr := of_decide_eq_false hbr
    refine g_exit rfl ?_
    obtain rfl : i = n := by omega
    rw [Int.toNat_natCast] at hC
    obtain ⟨rfl, rfl⟩ := hC.done hnl
    refine g_seq ?_
    refine g_region ?_
    refine l_move rfl rfl ?_
    refine l_not rfl rfl ?_
    refine l_move rfl rfl ?_
    refine l_guard_yes rfl rfl ?_
    refine l_move rfl rfl ?_
    refine l_guard_yes rfl rfl ?_
    refine l_call rfl Try.call32 rfl (rend_ok _ _ bq2 bs2 g2 nn _ (cut_len (by omega)) (take_u8 (encs_bd L n) nn) (by omega) p 12 (by omega) (by omega) (by omega) (by omega)) ?_; rintro _ _ ⟨rfl, rfl⟩
    rw [show endV nn p 12 = 12 by unfold endV; rw [if_pos (by omega)]]
    refine l_guard_yes rfl rfl ?_
    refine l_neq rfl rfl rfl ?_
    refine l_pick_f rfl rfl rfl ?_
    refine l_move rfl rfl ?_
    refine l_split 151 rfl ?_ ?_
    · intro hbr
      have hbr := of_decide_eq_true hbr
      (exfalso; omega)
    intro hbr
    have hbr := of_decide_eq_false hbr
    refine l_guard_yes rfl rfl ?_
    refine l_move rfl rfl ?_
    refine l_guard_yes rfl rfl ?_
    refine l_inl rfl Try.call34 rfl ?_
    refine c_enter Try.func34 rfl rfl rfl ?_
    refine g_seq ?_
    refine g_region ?_
    refine l_assign rfl rfl ?_
    refine l_nil ?_
    refine g_seq ?_
    refine g_seq ?_
    refine g_region ?_
    refine l_move rfl rfl ?_
    refine l_eqpn rfl Try.underlying69 rfl rfl ?_
    refine l_nil ?_
    refine g_cond_f rfl ?_
    refine g_skip ?_
    refine g_seq ?_
    refine g_region ?_
    refine l_move rfl rfl ?_
    refine l_nilCheck rfl rfl ?_
    refine l_fieldAddr rfl fa_113_1 rfl ?_
    first | refine l_ld rfl Try.isAgg26 rfl rfl ?_ | refine l_ldw rfl Try.isAgg26 rfl (by omega) ?_
    refine l_assign rfl rfl ?_
    refine l_nil ?_
    refine g_ret Try.func34 rfl (.tmp rfl .nil) ?_
    first | refine ⟨.int _ _, rfl, ?_⟩ | refine ⟨_, rfl, ?_⟩
    refine l_guard_yes rfl rfl ?_
    refine l_neq rfl rfl rfl ?_
    refine l_pick_f rfl rfl rfl ?_
    refine l_nil ?_
    refine g_cond rfl ?_ ?_
    · intro hbr
      have hbr := of_decide_eq_true hbr
      (exfalso; omega)
    intro hbr
    have hbr := of_decide_eq_false hbr
    refine g_skip ?_
    refine g_seq ?_
    refine g_region ?_
    refine l_move rfl rfl ?_
    refine l_call rfl Try.call37 rfl (pack_ok _ _ wa wn wc W hW.ex hU (by omega)) ?_; rintro _ _ ⟨gp, rfl, rfl⟩
    refine l_assign rfl rfl ?_
    refine l_nil ?_
    refine g_seq ?_
    refine g_region ?_
    refine l_move rfl rfl ?_
    refine l_call rfl Try.call38 rfl (unpack_ok _ _ (some ⟨gp, 0, none⟩) (4 * wn) wn (4 * wn) W rfl (.own (by rw [ints_length, packB_len, Nat.mul_one]) (.inr ⟨_, _, rfl⟩) (mem_getO 0 rfl)) hWl hU (by omega)) ?_; rintro _ _ ⟨ua, uc, rfl, hua, rfl⟩
    refine l_move rfl rfl ?_
    refine l_extract rfl rfl rfl ?_
    refine l_extract rfl rfl rfl ?_
    refine l_assign rfl rfl ?_
    refine l_assign rfl rfl ?_
    refine l_nil ?_
    refine g_seq ?_
    refine g_region ?_
    refine l_move rfl rfl ?_
    refine l_len rfl Try.underlying36 rfl ?_
    refine l_move rfl rfl ?_
    refine l_len rfl Try.underlying54 rfl ?_
    first | refine l_mul rfl rfl rfl (w_i64 (by omega) (by omega)) ?_ | refine l_mulw rfl rfl rfl ?_
    refine l_eql rfl rfl rfl ?_
    refine l_move rfl rfl ?_
    refine l_split 169 rfl ?_ ?_
    · intro hbr
      have hbr := of_decide_eq_true hbr
      refine l_guard_yes rfl rfl ?_
      refine l_move rfl rfl ?_
      refine l_guard_yes rfl rfl ?_
      refine l_eql rfl rfl rfl ?_
      refine l_pick_t rfl rfl rfl ?_
      refine l_move rfl rfl ?_
      refine l_split 173 rfl ?_ ?_
      · intro hbr
        have hbr := of_decide_eq_true hbr
        refine l_guard_yes rfl rfl ?_
        refine l_move rfl rfl ?_
        refine l_guard_yes rfl rfl ?_
        refine l_move rfl rfl ?_
        refine l_guard_yes rfl rfl ?_
        refine l_call rfl Try.call39 rfl (same_words _ _ ua wa wn uc wc W (IR.own hWl (mem_getO 0 rfl) hua) hW.ex hU (by omega)) ?_; rintro _ _ ⟨rfl, rfl⟩
        refine l_pick_t rfl rfl rfl ?_
        refine l_assign rfl rfl ?_
        refine l_nil ?_
        refine g_ret Try.func8 rfl (.tmp rfl .nil) ?_
        exact Gives.mki ⟨rfl, rfl⟩
      · intro hbr
        have hbr := of_decide_eq_false hbr
        (exfalso; omega)
    · intro hbr
      have hbr := of_decide_eq_false hbr
      (exfalso; omega)
  intro hbr
  have hbr := of_decide_eq_false hbr
  refine g_skip ?_
  refine g_seq ?_
  refine g_region ?_
  refine l_move rfl rfl ?_
  refine l_call rfl Try.call37 rfl (pack_ok _ _ wa wn wc W hW.ex hU (by omega)) ?_; rintro _ _ ⟨gp, rfl, rfl⟩
  refine l_assign rfl rfl ?_
  refine l_nil ?_
  refine g_seq ?_
  refine g_region ?_
  refine l_move rfl rfl ?_
  refine l_call rfl Try.call38 rfl (unpack_ok _ _ (some ⟨gp, 0, none⟩) (4 * wn) wn (4 * wn) W rfl (.own (by rw [ints_length, packB_len, Nat.mul_one]) (.inr ⟨_, _, rfl⟩) (mem_getO 0 rfl)) hWl hU (by omega)) ?_; rintro _ _ ⟨ua, uc, rfl, hua, rfl⟩
  refine l_move rfl rfl ?_
  refine l_extract rfl rfl rfl ?_
  refine l_extract rfl rfl rfl ?_
  refine l_assign rfl rfl ?_
  refine l_assign rfl rfl ?_
  refine l_nil ?_
  refine g_seq ?_
  refine g_region ?_
  refine l_move rfl rfl ?_
  refine l_len rfl Try.underlying36 rfl ?_
  refine l_move rfl rfl ?_
  refine l_len rfl Try.underlying54 rfl ?_
  first | refine l_mul rfl rfl rfl (w_i64 (by omega) (by omega)) ?_ | refine l_mulw rfl rfl rfl ?_
  refine l_eql rfl rfl rfl ?_
  refine l_move rfl rfl ?_
  refine l_split 169 rfl ?_ ?_
  · intro hbr
    have hbr := of_decide_eq_true hbr
    refine l_guard_yes rfl rfl ?_
    refine l_move rfl rfl ?_
    refine l_guard_yes rfl rfl ?_
    refine l_eql rfl rfl rfl ?_
    refine l_pick_t rfl rfl rfl ?_
    refine l_move rfl rfl ?_
    refine l_split 173 rfl ?_ ?_
    · intro hbr
      have hbr := of_decide_eq_true hbr
      refine l_guard_yes rfl rfl ?_
      refine l_move rfl rfl ?_
      refine l_guard_yes rfl rfl ?_
      refine l_move rfl rfl ?_
      refine l_guard_yes rfl rfl ?_
      refine l_call rfl Try.call39 rfl (same_words _ _ ua wa wn uc wc W (IR.own hWl (mem_getO 0 rfl) hua) hW.ex hU (by omega)) ?_; rintro _ _ ⟨rfl, rfl⟩
      refine l_pick_t rfl rfl rfl ?_
      refine l_assign rfl rfl ?_
      refine l_nil ?_
      refine g_ret Try.func8 rfl (.tmp rfl .nil) ?_
      exact Gives.mki ⟨rfl, rfl⟩
    · intro hbr
      have hbr := of_decide_eq_false hbr
      (exfalso; omega)
  · intro hbr
    have hbr := of_decide_eq_false hbr
    (exfalso; omega)
theorem viz_s66 {w : World} {r : List Value} (h : Viz Try.prog w 66 r) : ∃ (x0 : Int) (x1 : Int) (x2 : ByteArray), r = [.int .i64 x0, .int .u64 x1, .string x2] ∧ (Lit.int .i64 x0).wf = true ∧ (Lit.int .u64 x1).wf = true ∧ x2.size ≤ 140737488351232 := by
  obtain ⟨hl, hf⟩ := viz_struct Try.underlying66 h
  have hc : Try.prog.cellsOf 66 = 3 := by kernel_rfl
  have c3 : Try.prog.cellsOf 3 = 1 := by kernel_rfl
  have c53 : Try.prog.cellsOf 53 = 1 := by kernel_rfl
  have c9 : Try.prog.cellsOf 9 = 1 := by kernel_rfl
  match r, hl.trans hc with
  | [z0, z1, z2], _ =>
    obtain ⟨x0, e0, w0⟩ := vis_int Try.underlying3 (hf 0 _ rfl).vis
    obtain ⟨x1, e1, w1⟩ := vis_int Try.underlying53 (hf 1 _ rfl).vis
    obtain ⟨x2, e2, w2⟩ := viz_string Try.underlying9 (hf 2 _ rfl)
    simp [c3, c53, c9] at e0 e1 e2
    subst e0 e1 e2
    exact ⟨x0, x1, x2, rfl, w0, w1, w2⟩
theorem vis_item {w : World} {r : List Value} (h : Viz Try.prog w 66 r) : ∃ o : Item, r = itV o ∧ (ItOk o ∧ o.2.2.size ≤ 140737488355328) := by
  obtain ⟨a, b, c, rfl, w0, w1, w2⟩ := viz_s66 h
  exact ⟨(a, b, c), rfl, ⟨(wf_i64 w0).1, (wf_i64 w0).2, (wf_u64 w1).1, (wf_u64 w1).2⟩, Nat.le_trans w2 (by decide)⟩
theorem back_all (W : World) (a0 : Option Addr) (n0 c0 : Nat) (rows : List (List Value)) (hc0 : n0 ≤ c0) (hm0 : c0 ≤ maxLen) (hl0 : rows.length = n0) (hv0 : ∀ r ∈ rows, r.length = 3 ∧ Viz Try.prog W 66 r)
    (hr0 : (n0 = 0 ∧ (a0 = none → c0 = 0)) ∨ ∃ b o, a0 = some ⟨b, o, none⟩ ∧ ∀ (j : Nat) u, rows.flatten[j]? = some u → W.cell? ⟨b, o + j, none⟩ = some u) (cut : Int) (hcut : -9223372036854775808 ≤ cut ∧ cut ≤ 9223372036854775807)
    (a : Option Addr) (n c : Nat) (X : List Int) (hc : n ≤ c) (hm : c ≤ maxLen) (hl : X.length = n) (hwf : ∀ x ∈ X, (Lit.int .u32 x).wf = true) (hx : (n = 0 ∧ (a = none → c = 0)) ∨ ∃ b o, a = some ⟨b, o, none⟩ ∧ ∀ (j : Nat) u, (ints .u32 X)[j]? = some u → W.cell? ⟨b, o + j, none⟩ = some u) :
    CallK Try.prog 8 [.slice a0 n0 c0, .int .i64 cut, .slice a n c] W [Old W] (Gives W fun v F2 => v = .bool true ∧ F2 = [Old W]) := by
  simp only [maxLen] at hm hm0
  obtain ⟨L, hL, hLok⟩ := rows_choose (f := itV) (R := fun o => ItOk o ∧ o.2.2.size ≤ 140737488355328) (rows := rows) (fun r hr => vis_item (hv0 r hr).2)
  subst hL
  have hlen : L.length = n0 := by simpa using hl0
  refine back_ok W [Old W] a0 n0 c0 L ⟨hlen, ?_⟩ (fun o ho => (hLok o ho).1) (fun i hi => ?_) (by omega) cut hcut.1 hcut.2 a n c X ⟨hl, ?_⟩ (W32s.of fun x h => wf_u32 (hwf x h)) (by omega)
  · rcases hr0 with ⟨h, _⟩ | ⟨b, o, rfl, hr⟩
    · exact .inl h
    · exact .inr ⟨b, o, rfl, RowAt.old (by simp) hr⟩
  · have : iat L i = L[i] := by simp [iat, hlen, hi]
    rw [this]
    exact (hLok _ (List.getElem_mem _)).2
  · rcases hx with ⟨h, _⟩ | ⟨b, o, rfl, hr⟩
    · exact .inl h
    · exact .inr ⟨b, o, rfl, RowAt.old (by simp) hr⟩
end Go.Proofs.Ytnkmhhjldfapdaa.Fw
