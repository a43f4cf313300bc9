import Derived.Test.YthemlddepepekaaFair5
namespace Go.Proofs.Ythemlddepepekaa.Fw
open Go Go.Proofs
set_option linter.unusedVariables false
set_option linter.unusedSimpArgs false
set_option maxRecDepth 10000
theorem bd_31_0_1 (a0_0 : Option Addr) (a1_0 : Option Addr) (n1_0 c1_0 : Nat) (w : World) : (Instr.build 31 #[(0, .pointer a0_0), (1, .slice a1_0 n1_0 c1_0)]).run Try.prog w = .ok (.agg #[.pointer a0_0, .slice a1_0 n1_0 c1_0, .int .i64 0, .bool false, .int .i64 0]) w := by kernel_rfl
set_option maxHeartbeats 16000000 in
theorem fair_ok (w0 : World) (F : List Atom) (aM : Option Addr) (nM cM : Nat) (XM : List Int) (hIM : IR w0 F .i64 aM nM XM) (hbM : I64s XM) (hnM : nM ≤ 9223372036854775807) (aS : Option Addr) (nS cS : Nat) (XS : List Int) (hIS : IR w0 F .i64 aS nS XS) (hbS : I64s XS) (hnS : nS ≤ 9223372036854775807) :
    CallK Try.prog 4 [.slice aM nM cM, .slice aS nS cS] w0 (F) (Gives w0 fun v F2 => v = .bool true ∧ F2 = F) := by
  have hlM := hIM.1
  have hlS := hIS.1
  refine c_enter Try.func4 rfl rfl rfl ?_
  refine g_seq ?_
  refine g_region ?_
  refine l_assign rfl rfl ?_
  refine l_nil ?_
  refine g_seq ?_
  refine g_region ?_
  refine l_call rfl Try.call7 rfl (new_ok _ _ 1 (by omega) (by omega)) ?_; rintro _ _ ⟨bm, g, c, rfl, hc, hF9⟩; rw [hF9]; clear hF9
  rw [show ((1 : Int) * 16).toNat = 16 from rfl] at *
  refine l_move rfl rfl ?_
  refine l_extract rfl rfl rfl ?_
  refine l_extract rfl rfl rfl ?_
  refine l_assign rfl rfl ?_
  refine l_assign rfl rfl ?_
  refine l_nil ?_
  refine g_seq ?_
  refine g_seq ?_
  refine g_region ?_
  refine l_move rfl rfl ?_
  refine l_eqpn rfl Try.underlying24 rfl rfl ?_
  refine l_move rfl rfl ?_
  refine l_split 29 rfl ?_ ?_
  · intro hbr
    first | (exfalso; simp at hbr; done) | (exfalso; simp at hbr; omega) | (exfalso; first | omega | (simp at hbr; done))
  intro hbr
  have hb29 := hbr
  refine l_guard_yes rfl rfl ?_
  refine l_move rfl rfl ?_
  refine l_guard_yes rfl rfl ?_
  refine l_neq rfl rfl rfl ?_
  refine l_pick_f rfl rfl rfl ?_
  refine l_nil ?_
  refine g_cond rfl ?_ ?_
  · intro hbr
    have hbr := of_decide_eq_true hbr
    (exfalso; first | omega | (simp at hbr; done))
  intro hbr
  have hbr := of_decide_eq_false hbr
  refine g_skip ?_
  refine g_seq ?_
  refine g_region ?_
  refine l_buildSlice rfl Try.underlying23 Try.sizeOf3 Try.zeroValue3 rfl rfl rfl rfl rfl rfl ?_; intro b33
  refine l_call rfl Try.call8 rfl (lnew_ok _ _ (some ⟨b33, 0, none⟩) 1 [8] (by decide)) ?_; rintro _ _ ⟨bH, alH, clH, rfl, halH, rfl⟩
  refine l_buildSlice rfl Try.underlying23 Try.sizeOf3 Try.zeroValue3 rfl rfl rfl rfl rfl rfl ?_; intro b35
  refine l_build rfl rfl (fun w => bd_31_0_1 _ _ _ _ w) ?_
  refine l_allocs rfl Try.zeroValue31 ?_; intro b7
  refine l_sts Try.sizeOf31 rfl rfl rfl rfl rfl ?_
  refine l_nil ?_
  refine g_seq ?_
  refine g_region ?_
  refine l_makes (sz := 2) (zl := [Value.int .i64 0, Value.int .i64 0]) rfl Try.underlying32 Try.type44 rfl rfl rfl (by decide) rfl rfl (by decide) (by decide) (by decide) ?_; intro bq
  rw [show (5 : Int).toNat = 5 from rfl, show repL 5 [Value.int .i64 0, Value.int .i64 0] = qR Q0 from rfl]
  refine l_assign rfl rfl ?_
  refine l_nil ?_
  refine g_seq ?_
  refine g_seq ?_
  refine g_region ?_
  refine l_fieldAddr rfl fa_31_0 rfl ?_
  refine l_ld rfl Try.isAgg28 rfl rfl ?_
  refine l_eqpn rfl Try.underlying28 rfl rfl ?_
  refine l_nil ?_
  refine g_cond_f rfl ?_
  refine g_skip ?_
  refine g_seq ?_
  refine g_region ?_
  refine l_frontb b7 ?_
  refine gl_heap (fun w hw => hw.blk_own (m := 1) (cap := 1) (sz := 5) (by rfl) (by decide) (by decide)) ?_
  refine l_move rfl rfl ?_
  refine l_move rfl rfl ?_
  refine l_fronto bq ?_
  refine l_fronto b7 ?_
  refine l_frontv (.slice none 0 0) ?_
  refine l_frontb bH ?_
  refine l_fronto g ?_
  refine l_frontb bm ?_
  refine l_call rfl Try.call9 rfl (moves_ok _ _ bm g c (List.replicate 16 0) hc b7 1 [(kH bH alH clH (some ⟨b35, 0, none⟩) 1)] 0 Nat.zero_lt_one bq Q0 (kH bH alH clH (some ⟨b35, 0, none⟩) 1) rfl (head0 _ _ _ _ _) (IR.own (cap := clH) rfl (by first | exact mem_getO 0 rfl | exact mem_getO 1 rfl | exact mem_getO 2 rfl | exact mem_getO 3 rfl) halH) (IR.own (cap := 1) rfl (by first | exact mem_getO 0 rfl | exact mem_getO 1 rfl | exact mem_getO 2 rfl | exact mem_getO 3 rfl) (.inr ⟨_, rfl⟩)) (.inl rfl)) ?_; rintro _ _ ⟨k1, Qa, Wa, rfl, rfl, htt1, hM1⟩
  obtain ⟨hid1, e1, e2, e3, e4, rfl, rfl⟩ := head1 hM1
  refine l_assign rfl rfl ?_
  refine l_nil ?_
  refine g_seq ?_
  refine g_region ?_
  refine l_move rfl rfl ?_
  refine l_move rfl rfl ?_
  refine l_call rfl Try.call9 rfl (moves_ok _ _ bm g c ((List.replicate 16 0).set 8 1) hc b7 1 [k1] 0 Nat.zero_lt_one bq Q1 k1 rfl (head_loc hid1 e1 e2 e3 e4) (by rw [hid1.2.1, hid1.2.2.2.2.2]; exact IR.own (cap := clH) rfl (by first | exact mem_getO 0 rfl | exact mem_getO 1 rfl | exact mem_getO 2 rfl | exact mem_getO 3 rfl) halH) (by rw [hid1.2.2.2.1, hid1.2.2.2.2.2]; exact IR.own (cap := 1) rfl (by first | exact mem_getO 0 rfl | exact mem_getO 1 rfl | exact mem_getO 2 rfl | exact mem_getO 3 rfl) (.inr ⟨_, rfl⟩)) htt1) ?_; rintro _ _ ⟨k2, Qb, Wb, rfl, rfl, htt2, hM2⟩
  obtain ⟨hid2, f1, rfl, rfl⟩ := head2 hid1 e1 e2 e3 e4 hM2
  refine l_assign rfl rfl ?_
  refine l_nil ?_
  refine g_seq ?_
  refine g_seq ?_
  refine g_region ?_
  refine l_move rfl rfl ?_
  refine l_not rfl rfl ?_
  refine l_move rfl rfl ?_
  refine l_guard_yes rfl rfl ?_
  refine l_move rfl rfl ?_
  refine l_guard_yes rfl rfl ?_
  refine l_not rfl rfl ?_
  refine l_pick_f rfl rfl rfl ?_
  refine l_move rfl rfl ?_
  refine l_guard_yes rfl rfl ?_
  refine l_fieldAddr rfl fa_31_0 rfl ?_
  refine l_guard_yes rfl rfl ?_
  refine l_loadc rfl (v := .pointer (some ⟨k2.b, 0, none⟩)) Try.isAgg28 rfl (kn_cell (KL := [k1].set 0 k2) (j := 0) Nat.zero_lt_one 0 rfl) ?_
  refine l_guard_yes rfl rfl ?_
  refine l_frontb k2.b ?_
  refine l_call rfl Try.call10 rfl (chall_ok _ _ k2.b k2.al k2.cl k2.L k2.h k2.q k2.tt k2.T.length k2.ct (by rw [hid2.2.2.2.2.2]; show 1 ≤ 1073741824; decide) (by rw [f1]; decide) (by rw [f1, hid2.2.2.2.2.2]; show (1 : Int) ≤ ((1 : Nat) : Int); decide)) ?_; rintro _ _ ⟨rfl, rfl⟩
  rw [show decide (k2.h = (k2.L.length : Int)) = true by rw [f1, hid2.2.2.2.2.2]; rfl]
  refine l_guard_yes rfl rfl ?_
  refine l_not rfl rfl ?_
  refine l_pick_f rfl rfl rfl ?_
  refine l_nil ?_
  refine g_cond_f rfl ?_
  refine g_skip ?_
  refine g_seq ?_
  refine g_region ?_
  refine l_move rfl rfl ?_
  refine l_call rfl Try.call11 rfl (begins_ok _ _ aM nM cM XM hIM.ex hbM hnM) ?_; rintro _ _ ⟨la, lc, KL, rfl, rfl, hK5, hla, hKs⟩
  refine l_assign rfl rfl ?_
  refine l_nil ?_
  refine g_seq ?_
  refine g_seq ?_
  refine g_region ?_
  refine l_assign rfl rfl ?_
  refine l_nil ?_
  refine g_block ?_
  refine g_loopk (X := Int × List Kw × QS × List Int) [(1, _), (5, _), (8, _), (11, _)] (.cons rfl (.cons rfl (.cons rfl (.cons rfl (.nil))))) (fun z => 0 ≤ z.1 ∧ z.1 ≤ nS ∧ GI KL z.2.1 z.2.2.1 z.2.2.2 z.1) (fun z => (nS - z.1).toNat) (fun z => [(12, .int .i64 z.1)]) (fun z => Blk bm (.cells [Value.slice (some ⟨g, 0, none⟩) 16 c].toArray 81 (0, 0)) :: Own 51 1 (.slice (some ⟨g, 0, none⟩) 16 c) 16 (ints .u32 z.2.2.2) :: Own 31 5 (.slice la (z.2.1).length lc) (z.2.1).length (knR z.2.1) :: Own 44 2 (.slice (some ⟨bq, 0, none⟩) 5 5) 5 (qR z.2.2.1) :: BigF KL.length (fun j => Blk (kat z.2.1 j).b (.cells [Value.slice (kat z.2.1 j).al (kat z.2.1 j).L.length (kat z.2.1 j).cl, .int .i64 (kat z.2.1 j).h, .bool (kat z.2.1 j).q, .slice (kat z.2.1 j).tt (kat z.2.1 j).T.length (kat z.2.1 j).ct].toArray 84 (0, 0))) :: BigF KL.length (fun j => Own 51 1 (.slice (kat z.2.1 j).tt (kat z.2.1 j).T.length (kat z.2.1 j).ct) (kat z.2.1 j).T.length (ints .u32 (kat z.2.1 j).T)) :: BigF KL.length (fun j => Own 3 1 (.slice (kat KL j).al (kat KL j).L.length (kat KL j).cl) (kat KL j).L.length (ints .i64 (kat KL j).L)) :: BigF KL.length (fun j => Own 3 1 (.slice (kat KL j).la (kat KL j).L.length (kat KL j).lc) (kat KL j).L.length (ints .i64 (kat KL j).L)) :: F) ((0, KL, Q1, (List.replicate 16 0).set 8 1)) (⟨by simp only; omega, by simp only; omega, GI.begin hKs⟩) (.cons rfl .nil) ((fun w hw => SPI.holds (F' := Blk bm (.cells [Value.slice (some ⟨g, 0, none⟩) 16 c].toArray 81 (0, 0)) :: Own 51 1 (.slice (some ⟨g, 0, none⟩) 16 c) 16 (ints .u32 ((List.replicate 16 0).set 8 1)) :: Own 31 5 (.slice la (KL).length lc) (KL).length (knR KL) :: Own 44 2 (.slice (some ⟨bq, 0, none⟩) 5 5) 5 (qR Q1) :: BigF KL.length (fun j => Blk (kat KL j).b (.cells [Value.slice (kat KL j).al (kat KL j).L.length (kat KL j).cl, .int .i64 (kat KL j).h, .bool (kat KL j).q, .slice (kat KL j).tt (kat KL j).T.length (kat KL j).ct].toArray 84 (0, 0))) :: BigF KL.length (fun j => Own 51 1 (.slice (kat KL j).tt (kat KL j).T.length (kat KL j).ct) (kat KL j).T.length (ints .u32 (kat KL j).T)) :: BigF KL.length (fun j => Own 3 1 (.slice (kat KL j).al (kat KL j).L.length (kat KL j).cl) (kat KL j).L.length (ints .i64 (kat KL j).L)) :: BigF KL.length (fun j => Own 3 1 (.slice (kat KL j).la (kat KL j).L.length (kat KL j).lc) (kat KL j).L.length (ints .i64 (kat KL j).L)) :: F) hw)) ?_
  rintro ⟨i, KL2, Q, W⟩ ⟨i0, i1, hG⟩ ih
  dsimp only [List.cons_append, List.nil_append] at ih ⊢
  simp only at i0 i1 hG
  have hGl := hG.len
  refine g_seq ?_
  refine g_seq ?_
  refine g_region ?_
  refine l_move rfl rfl ?_
  refine l_move rfl rfl ?_
  refine l_len rfl Try.underlying23 rfl ?_
  refine l_lss rfl rfl rfl ?_
  refine l_move rfl rfl ?_
  refine l_split 65 rfl ?_ ?_
  · intro hbr
    have hbr := of_decide_eq_true hbr
    refine l_guard_yes rfl rfl ?_
    refine l_move rfl rfl ?_
    refine l_guard_yes rfl rfl ?_
    refine l_len rfl Try.underlying35 rfl ?_
    refine l_guard_yes rfl rfl ?_
    refine l_gtr rfl rfl rfl ?_
    refine l_pick_t rfl rfl rfl ?_
    refine l_nil ?_
    refine g_cond rfl ?_ ?_
    · intro hbr
      have hbr := of_decide_eq_true hbr
      refine g_skip ?_
      refine g_seq ?_
      refine g_block ?_
      refine g_seq ?_
      refine g_region ?_
      refine l_move rfl rfl ?_
      refine l_move rfl rfl ?_
      refine l_move rfl rfl ?_
      obtain ⟨b9, o9, rfl, hr9⟩ := hIS.some (i := i.toNat) (by omega)
      have hb9 := hbS i.toNat
      obtain ⟨gl, rfl⟩ := hla.resolve_left (by omega)
      refine l_ixs rfl Try.underlying23 Try.sizeOf3 rfl rfl (by omega) (by omega) ?_
      refine l_loadc rfl Try.isAgg3 rfl (word_any hr9 (by omega)) ?_
      refine l_move rfl rfl ?_
      refine l_len rfl Try.underlying35 rfl ?_
      refine l_call rfl Try.call12 rfl (pick_ok _ _ (XS.getD i.toNat 0) (KL.length : Int) (by omega) (by omega) (by omega) (by omega)) ?_; rintro _ F9 ⟨rfl, hF9⟩; rw [hF9]; clear hF9 F9
      have hpl := pk_lt (XS.getD i.toNat 0) (show (0 : Int) < (KL.length : Int) by omega)
      obtain ⟨p, hpe⟩ := Int.eq_ofNat_of_zero_le hpl.1
      rw [hpe]
      have hp : p < KL.length := (by omega)
      refine l_ixs rfl Try.underlying35 Try.sizeOf31 rfl rfl (by omega) (by omega) ?_
      rw [Int.toNat_natCast]
      have hpK : p < KL2.length := (by rw [hG.len]; exact hp)
      refine l_assign rfl rfl ?_
      refine l_nil ?_
      refine g_seq ?_
      refine g_seq ?_
      refine g_region ?_
      refine l_move rfl rfl ?_
      refine l_nilCheck rfl rfl ?_
      refine l_fieldAddr rfl fa_31_0 rfl ?_
      refine l_loadc rfl (v := .pointer (some ⟨(kat KL2 p).b, 0, none⟩)) Try.isAgg28 rfl (kn_cell hpK 0 rfl) ?_
      refine l_eqpn rfl Try.underlying28 rfl rfl ?_
      refine l_nil ?_
      refine g_cond_f rfl ?_
      refine g_skip ?_
      refine g_seq ?_
      refine g_region ?_
      refine l_assign rfl rfl ?_
      refine l_nil ?_
      refine g_seq ?_
      refine g_seq ?_
      refine g_region ?_
      refine l_move rfl rfl ?_
      refine l_move rfl rfl ?_
      refine l_ixs rfl Try.underlying23 Try.sizeOf3 rfl rfl (by omega) (by omega) ?_
      refine l_loadc rfl Try.isAgg3 rfl (word_any hr9 (by omega)) ?_
      have htd := tdiv_bd (c := XS.getD i.toNat 0) (b := 5) (by omega) hb9.1 hb9.2
      refine l_quot rfl rfl rfl (by omega) (w_i64 htd.1 htd.2) ?_
      refine l_call rfl Try.call12 rfl (pick_ok _ _ ((XS.getD i.toNat 0).tdiv 5) 3 (by omega) (by omega) (by omega) (by omega)) ?_; rintro _ F9 ⟨rfl, hF9⟩; rw [hF9]; clear hF9 F9
      refine l_eql rfl rfl rfl ?_
      refine l_nil ?_
      refine g_cond rfl ?_ ?_
      · intro hbr
        have hbr := of_decide_eq_true hbr
        refine g_region ?_
        refine gl_heap (F' := Blk bm (.cells [Value.slice (some ⟨g, 0, none⟩) 16 c].toArray 81 (0, 0)) :: Own 51 1 (.slice (some ⟨g, 0, none⟩) 16 c) 16 (ints .u32 W) :: Blk (kat KL2 p).b (.cells [Value.slice (kat KL2 p).al (kat KL2 p).L.length (kat KL2 p).cl, .int .i64 (kat KL2 p).h, .bool (kat KL2 p).q, .slice (kat KL2 p).tt (kat KL2 p).T.length (kat KL2 p).ct].toArray 84 (0, 0)) :: Own 51 1 (.slice (kat KL2 p).tt (kat KL2 p).T.length (kat KL2 p).ct) (kat KL2 p).T.length (ints .u32 (kat KL2 p).T) :: Own 31 5 (.slice (some ⟨gl, 0, none⟩) (KL2).length lc) (KL2).length (knR KL2) :: Own 44 2 (.slice (some ⟨bq, 0, none⟩) 5 5) 5 (qR Q) :: BigBut KL.length p (fun j => Blk (kat KL2 j).b (.cells [Value.slice (kat KL2 j).al (kat KL2 j).L.length (kat KL2 j).cl, .int .i64 (kat KL2 j).h, .bool (kat KL2 j).q, .slice (kat KL2 j).tt (kat KL2 j).T.length (kat KL2 j).ct].toArray 84 (0, 0))) :: BigBut KL.length p (fun j => Own 51 1 (.slice (kat KL2 j).tt (kat KL2 j).T.length (kat KL2 j).ct) (kat KL2 j).T.length (ints .u32 (kat KL2 j).T)) :: BigF KL.length (fun j => Own 3 1 (.slice (kat KL j).al (kat KL j).L.length (kat KL j).cl) (kat KL j).L.length (ints .i64 (kat KL j).L)) :: BigF KL.length (fun j => Own 3 1 (.slice (kat KL j).la (kat KL j).L.length (kat KL j).lc) (kat KL j).L.length (ints .i64 (kat KL j).L)) :: F) (fun w hw => SPI.holds (focus2 (SPI.holds (F' := BigF KL.length (fun j => Blk (kat KL2 j).b (.cells [Value.slice (kat KL2 j).al (kat KL2 j).L.length (kat KL2 j).cl, .int .i64 (kat KL2 j).h, .bool (kat KL2 j).q, .slice (kat KL2 j).tt (kat KL2 j).T.length (kat KL2 j).ct].toArray 84 (0, 0))) :: BigF KL.length (fun j => Own 51 1 (.slice (kat KL2 j).tt (kat KL2 j).T.length (kat KL2 j).ct) (kat KL2 j).T.length (ints .u32 (kat KL2 j).T)) :: Blk bm (.cells [Value.slice (some ⟨g, 0, none⟩) 16 c].toArray 81 (0, 0)) :: Own 51 1 (.slice (some ⟨g, 0, none⟩) 16 c) 16 (ints .u32 W) :: Own 31 5 (.slice (some ⟨gl, 0, none⟩) (KL2).length lc) (KL2).length (knR KL2) :: Own 44 2 (.slice (some ⟨bq, 0, none⟩) 5 5) 5 (qR Q) :: BigF KL.length (fun j => Own 3 1 (.slice (kat KL j).al (kat KL j).L.length (kat KL j).cl) (kat KL j).L.length (ints .i64 (kat KL j).L)) :: BigF KL.length (fun j => Own 3 1 (.slice (kat KL j).la (kat KL j).L.length (kat KL j).lc) (kat KL j).L.length (ints .i64 (kat KL j).L)) :: F) hw) hp)) ?_
        refine l_move rfl rfl ?_
        refine l_move rfl rfl ?_
        refine l_move rfl rfl ?_
        refine l_call rfl Try.call13 rfl (gives_ok _ _ bm g c W hc gl lc KL2 p (by rw [hG.len]; exact hp) bq Q (kat KL2 p) rfl (hG.loc hKs hK5 (by omega) hp) (kid_al (by first | exact List.mem_cons_of_mem _ (List.mem_cons_of_mem _ (List.mem_cons_self ..)) | exact List.mem_cons_of_mem _ (List.mem_cons_of_mem _ (List.mem_cons_of_mem _ (List.mem_cons_self ..)))) hp (hG.kid p hp) (hKs p hp)) (kid_la (by first | exact List.mem_cons_of_mem _ (List.mem_cons_of_mem _ (List.mem_cons_self ..)) | exact List.mem_cons_of_mem _ (List.mem_cons_of_mem _ (List.mem_cons_of_mem _ (List.mem_cons_self ..)))) hp (hG.kid p hp) (hKs p hp)) (hG.tk p hp)) ?_; rintro _ _ ⟨k2, Q2, W2, rfl, rfl, htt2, hM⟩
        have hG2 := hG.given hp htt2 hM
        refine l_assign rfl rfl ?_
        refine l_nil ?_
        refine g_seq ?_
        refine g_region ?_
        have hkid2 := (hG2.kid p hp)
        have hkok2 := hG2.f.kok p hp
        have htk2 := hG2.f
        rw [kat_set hpK, if_pos rfl] at hkok2 hkid2
        have hok2 := hkok2.ok
        have hl24 := hkok2.len
        have hT5 := hok2.len
        clear htk2
        refine l_move rfl rfl ?_
        refine l_nilCheck rfl rfl ?_
        refine l_fieldAddr rfl fa_31_0 rfl ?_
        refine l_loadc rfl (v := .pointer (some ⟨k2.b, 0, none⟩)) Try.isAgg28 rfl (kn_cell (by rw [List.length_set]; exact hpK) 0 (by rw [kat_set hpK, if_pos rfl]; rfl)) ?_
        refine l_frontb k2.b ?_
        refine l_call rfl Try.call10 rfl (chall_ok _ _ k2.b k2.al k2.cl k2.L k2.h k2.q k2.tt k2.T.length k2.ct (by omega) hok2.1 hok2.2.1) ?_; rintro _ _ ⟨rfl, rfl⟩
        refine l_assign rfl rfl ?_
        refine l_nil ?_
        refine g_seq ?_
        refine g_region ?_
        refine l_move rfl rfl ?_
        refine l_nilCheck rfl rfl ?_
        refine l_fieldAddr rfl fa_31_0 rfl ?_
        refine l_loadc rfl (v := .pointer (some ⟨k2.b, 0, none⟩)) Try.isAgg28 rfl (kn_cell (by rw [List.length_set]; exact hpK) 0 (by rw [kat_set hpK, if_pos rfl]; rfl)) ?_
        refine l_frontv (.slice k2.tt k2.T.length k2.ct) ?_
        refine l_frontb k2.b ?_
        refine l_call rfl Try.call14 rfl (chstate_ok _ _ k2.b k2.al k2.cl k2.L k2.h k2.q k2.tt k2.T.length k2.ct k2.T rfl (by omega)) ?_; rintro _ _ ⟨a2, c2, rfl, ha2, rfl⟩
        refine l_move rfl rfl ?_
        refine l_extract rfl rfl rfl ?_
        refine l_extract rfl rfl rfl ?_
        refine l_extract rfl rfl rfl ?_
        refine l_assign rfl rfl ?_
        refine l_assign rfl rfl ?_
        refine l_assign rfl rfl ?_
        refine l_nil ?_
        refine g_seq ?_
        refine g_region ?_
        refine l_move rfl rfl ?_
        refine l_nilCheck rfl rfl ?_
        refine l_fieldAddr rfl fa_31_2 rfl ?_
        refine l_loadc rfl (v := .int .i64 k2.h) Try.isAgg3 rfl (kn_cell (by rw [List.length_set]; exact hpK) 2 (by rw [kat_set hpK, if_pos rfl]; rfl)) ?_
        refine l_assign rfl rfl ?_
        refine l_nil ?_
        refine g_seq ?_
        refine g_seq ?_
        refine g_region ?_
        refine l_move rfl rfl ?_
        refine l_nilCheck rfl rfl ?_
        refine l_fieldAddr rfl fa_31_3 rfl ?_
        refine l_loadc rfl (v := .bool k2.q) Try.isAgg4 rfl (kn_cell (by rw [List.length_set]; exact hpK) 3 (by rw [kat_set hpK, if_pos rfl]; rfl)) ?_
        refine l_nil ?_
        refine g_cond rfl ?_ ?_
        · intro hbr
          refine g_region ?_
          have hwl := hok2.2.2.1 hbr
          refine l_move rfl rfl ?_
          first | refine l_add rfl rfl rfl (w_i64 (by omega) (by omega)) ?_ | refine l_addw rfl rfl rfl ?_
          refine l_assign rfl rfl ?_
          refine l_nil ?_
          refine g_seq ?_
          refine g_seq ?_
          refine gp_start mo (by kernel_rfl) (by kernel_rfl) ?_
          (first | have hwl := hok2.2.2.2 hbr | skip)
          refine gp_quiet 0 rfl rfl rfl rfl rfl rfl (q_move rfl) ?_
          refine gp_quiet 1 rfl rfl rfl rfl rfl rfl (q_not rfl) ?_
          refine gp_quiet 2 rfl rfl rfl rfl rfl rfl (q_move rfl) ?_
          refine gp_quietg 3 rfl rfl rfl rfl rfl rfl (.yes rfl rfl (q_move rfl)) ?_
          refine gp_quietg 4 rfl rfl rfl rfl rfl rfl (.yes rfl rfl (q_move rfl)) ?_
          refine gp_quietg 5 rfl rfl rfl rfl rfl rfl (.yes rfl rfl (q_nilCheck rfl)) ?_
          refine gp_quietg 6 rfl rfl rfl rfl rfl rfl (.yes rfl rfl (q_fieldAddr fa_31_2 rfl)) ?_
          refine gp_quietg 7 rfl rfl rfl rfl rfl rfl (.yes rfl rfl (q_loadc (v := .int .i64 k2.h) Try.isAgg3 rfl (kn_cell (by rw [List.length_set]; exact hpK) 2 (by rw [kat_set hpK, if_pos rfl]; rfl)))) ?_
          refine gp_quietg 8 rfl rfl rfl rfl rfl rfl (.yes rfl rfl (q_move rfl)) ?_
          refine gp_quietg 9 rfl rfl rfl rfl rfl rfl (.yes rfl rfl (q_nilCheck rfl)) ?_
          refine gp_quietg 10 rfl rfl rfl rfl rfl rfl (.yes rfl rfl (q_fieldAddr fa_31_1 rfl)) ?_
          refine gp_quietg 11 rfl rfl rfl rfl rfl rfl (.yes rfl rfl (q_loadc (v := .slice k2.la k2.L.length k2.lc) Try.isAgg23 rfl (kn_cell (by rw [List.length_set]; exact hpK) 1 (by rw [kat_set hpK, if_pos rfl]; rfl)))) ?_
          refine gp_quietg 12 rfl rfl rfl rfl rfl rfl (.yes rfl rfl (q_len Try.underlying23 rfl)) ?_
          refine gp_quietg 13 rfl rfl rfl rfl rfl rfl (.yes rfl rfl (q_eql rfl rfl)) ?_
          refine gp_quietg 14 rfl rfl rfl rfl rfl rfl (.yes rfl rfl (q_neqb Try.underlying4 rfl rfl)) ?_
          refine gp_quiet 15 rfl rfl rfl rfl rfl rfl (q_pick_f rfl rfl) ?_
          refine gp_quiet 16 rfl rfl rfl rfl rfl rfl (q_move rfl) ?_
          refine gp_split 141 rfl ?_ ?_
          · intro hbr
            first | (exfalso; simp at hbr; done) | (exfalso; simp at hbr; omega) | (exfalso; first | omega | (simp at hbr; done))
          intro hbr
          have hg141 := hbr
          refine gp_quietg 17 rfl rfl rfl rfl rfl rfl (.yes rfl rfl (q_move rfl)) ?_
          refine gp_quietg 18 rfl rfl rfl rfl rfl rfl (.yes rfl rfl (q_move rfl)) ?_
          refine gp_quietg 19 rfl rfl rfl rfl rfl rfl (.yes rfl rfl (q_nilCheck rfl)) ?_
          refine gp_quietg 20 rfl rfl rfl rfl rfl rfl (.yes rfl rfl (q_fieldAddr fa_31_2 rfl)) ?_
          refine gp_quietg 21 rfl rfl rfl rfl rfl rfl (.yes rfl rfl (q_loadc (v := .int .i64 k2.h) Try.isAgg3 rfl (kn_cell (by rw [List.length_set]; exact hpK) 2 (by rw [kat_set hpK, if_pos rfl]; rfl)))) ?_
          refine gp_quietg 22 rfl rfl rfl rfl rfl rfl (.yes rfl rfl (q_neq rfl rfl)) ?_
          refine gp_quiet 23 rfl rfl rfl rfl rfl rfl (q_pick_f rfl rfl) ?_
          refine gp_quiet 24 rfl rfl rfl rfl rfl rfl (q_move rfl) ?_
          refine gp_split 149 rfl ?_ ?_
          · intro hbr
            have hbr := of_decide_eq_true hbr
            (exfalso; first | omega | (simp at hbr; done))
          intro hbr
          have hg149 := hbr
          have hbr := of_decide_eq_false hbr
          refine gp_quietg 25 rfl rfl rfl rfl rfl rfl (.yes rfl rfl (q_move rfl)) ?_
          refine gp_quietg 26 rfl rfl rfl rfl rfl rfl (.yes rfl rfl (q_move rfl)) ?_
          refine gp_quietg 27 rfl rfl rfl rfl rfl rfl (.yes rfl rfl (q_nilCheck rfl)) ?_
          refine gp_quietg 28 rfl rfl rfl rfl rfl rfl (.yes rfl rfl (q_fieldAddr fa_31_3 rfl)) ?_
          refine gp_quietg 29 rfl rfl rfl rfl rfl rfl (.yes rfl rfl (q_loadc (v := .bool k2.q) Try.isAgg4 rfl (kn_cell (by rw [List.length_set]; exact hpK) 3 (by rw [kat_set hpK, if_pos rfl]; rfl)))) ?_
          refine gp_quietg 30 rfl rfl rfl rfl rfl rfl (.yes rfl rfl (q_neqb Try.underlying4 rfl rfl)) ?_
          refine gp_quiet 31 rfl rfl rfl rfl rfl rfl (q_pick_f rfl rfl) ?_
          refine gp_quiet 32 rfl rfl rfl rfl rfl rfl (q_move rfl) ?_
          refine gp_split 157 rfl ?_ ?_
          · intro hbr
            first | (exfalso; simp at hbr; done) | (exfalso; simp at hbr; omega) | (exfalso; first | omega | (simp at hbr; done))
          intro hbr
          have hg157 := hbr
          refine gp_quietg 33 rfl rfl rfl rfl rfl rfl (.yes rfl rfl (q_move rfl)) ?_
          refine gp_quietg 34 rfl rfl rfl rfl rfl rfl (.yes rfl rfl (q_len Try.underlying38 rfl)) ?_
          refine gp_quietg 35 rfl rfl rfl rfl rfl rfl (.yes rfl rfl (q_move rfl)) ?_
          refine gp_quietg 36 rfl rfl rfl rfl rfl rfl (.yes rfl rfl (q_neq rfl rfl)) ?_
          refine gp_quiet 37 rfl rfl rfl rfl rfl rfl (q_pick_f rfl rfl) ?_
          refine gp_end rfl rfl ?_
          refine g_cond rfl ?_ ?_
          · intro hbr
            have hbr := of_decide_eq_true hbr
            (exfalso; first | omega | (simp at hbr; done))
          intro hbr
          have hbr := of_decide_eq_false hbr
          refine g_skip ?_
          refine g_seq ?_
          refine g_seq ?_
          refine g_region ?_
          refine l_assign rfl rfl ?_
          refine l_nil ?_
          refine g_block ?_
          refine g_loopc (X := Int) [(1, _), (5, _), (8, _), (11, _), (12, _), (13, _), (14, _), (15, _), (16, _), (17, _), (18, _), (19, _), (61, _), (62, _), (63, _), (64, _), (65, _), (66, _), (67, _), (68, _), (69, _), (72, _), (73, _), (74, _), (75, _), (76, _), (77, _), (78, _), (79, _), (80, _), (81, _), (82, _), (83, _), (84, _), (85, _), (86, _), (87, _), (88, _), (89, _), (90, _), (91, _), (92, _), (93, _), (94, _), (95, _), (96, _), (101, _), (102, _), (103, _), (104, _), (105, _), (106, _), (107, _), (108, _), (109, _), (110, _), (111, _), (112, _), (113, _), (114, _), (115, _), (116, _), (117, _), (118, _), (119, _), (120, _), (121, _), (122, _), (123, _), (124, _), (125, _), (126, _), (127, _), (128, _), (129, _), (130, _), (131, _), (132, _), (133, _), (134, _), (135, _), (136, _), (137, _), (138, _), (139, _), (140, _), (141, _), (142, _), (143, _), (144, _), (145, _), (146, _), (147, _), (148, _), (149, _), (150, _), (151, _), (152, _), (153, _), (154, _), (155, _), (156, _), (157, _), (158, _), (159, _), (160, _), (161, _), (162, _)] (.cons rfl (.cons rfl (.cons rfl (.cons rfl (.cons rfl (.cons rfl (.cons rfl (.cons rfl (.cons rfl (.cons rfl (.cons rfl (.cons rfl (.cons rfl (.cons rfl (.cons rfl (.cons rfl (.cons rfl (.cons rfl (.cons rfl (.cons rfl (.cons rfl (.cons rfl (.cons rfl (.cons rfl (.cons rfl (.cons rfl (.cons rfl (.cons rfl (.cons rfl (.cons rfl (.cons rfl (.cons rfl (.cons rfl (.cons rfl (.cons rfl (.cons rfl (.cons rfl (.cons rfl (.cons rfl (.cons rfl (.cons rfl (.cons rfl (.cons rfl (.cons rfl (.cons rfl (.cons rfl (.cons rfl (.cons rfl (.cons rfl (.cons rfl (.cons rfl (.cons rfl (.cons rfl (.cons rfl (.cons rfl (.cons rfl (.cons rfl (.cons rfl (.cons rfl (.cons rfl (.cons rfl (.cons rfl (.cons rfl (.cons rfl (.cons rfl (.cons rfl (.cons rfl (.cons rfl (.cons rfl (.cons rfl (.cons rfl (.cons rfl (.cons rfl (.cons rfl (.cons rfl (.cons rfl (.cons rfl (.cons rfl (.cons rfl (.cons rfl (.cons rfl (.cons rfl (.cons rfl (.cons rfl (.cons rfl (.cons rfl (.cons rfl (.cons rfl (.cons rfl (.cons rfl (.cons rfl (.cons rfl (.cons rfl (.cons rfl (.cons rfl (.cons rfl (.cons rfl (.cons rfl (.cons rfl (.cons rfl (.cons rfl (.cons rfl (.cons rfl (.cons rfl (.cons rfl (.cons rfl (.cons rfl (.cons rfl (.nil))))))))))))))))))))))))))))))))))))))))))))))))))))))))))))))))))))))))))))))))))))))))))))))))))))))))))))) (fun j => 0 ≤ j ∧ j ≤ 5) (fun j => (5 - j).toNat) (fun j => [(20, .int .i64 j)]) (0) (⟨by omega, by omega⟩) (.cons rfl .nil) ?_
          rintro j ⟨j0, j1⟩ ihj
          dsimp only [List.cons_append, List.nil_append] at ihj ⊢
          refine g_seq ?_
          refine g_seq ?_
          refine g_region ?_
          refine l_move rfl rfl ?_
          refine l_lss rfl rfl rfl ?_
          refine l_nil ?_
          refine g_cond rfl ?_ ?_
          · intro hbr
            have hbr := of_decide_eq_true hbr
            refine g_skip ?_
            refine g_seq ?_
            refine g_block ?_
            refine g_seq ?_
            refine g_region ?_
            have hwt := hG2.wait hK5 j0 (show j < 5 by omega)
            refine l_move rfl rfl ?_
            refine l_move rfl rfl ?_
            first | refine l_mul rfl rfl rfl (w_i64 (by omega) (by omega)) ?_ | refine l_mulw rfl rfl rfl ?_
            refine l_fronto g ?_
            refine l_frontb bm ?_
            refine l_call rfl Try.call15 rfl (lwait_ok _ _ bm g 16 c W2 hG2.f.wl hc (by omega) (2 * j) (by omega) (by omega) hwt.1) ?_; rintro _ _ ⟨rfl, rfl⟩
            rw [hwt.2]
            have hge := hG2.f.ge j.toNat (by omega)
            have hbd := hG2.bd2 (by omega) (show j.toNat < 5 by omega)
            refine l_move rfl rfl ?_
            refine l_extract rfl rfl rfl ?_
            refine l_extract rfl rfl rfl ?_
            refine l_assign rfl rfl ?_
            refine l_assign rfl rfl ?_
            refine l_nil ?_
            refine g_seq ?_
            refine gp_start mo (by kernel_rfl) (by kernel_rfl) ?_
            refine gp_quiet 0 rfl rfl rfl rfl rfl rfl (q_move rfl) ?_
            refine gp_quiet 1 rfl rfl rfl rfl rfl rfl (q_neq rfl rfl) ?_
            refine gp_quiet 2 rfl rfl rfl rfl rfl rfl (q_move rfl) ?_
            refine gp_split 176 rfl ?_ ?_
            · intro hbr
              have hbr := of_decide_eq_true hbr
              (exfalso; first | omega | (simp at hbr; done))
            intro hbr
            have hg176 := hbr
            have hbr := of_decide_eq_false hbr
            refine gp_quietg 3 rfl rfl rfl rfl rfl rfl (.yes rfl rfl (q_move rfl)) ?_
            refine gp_quietg 4 rfl rfl rfl rfl rfl rfl (.yes rfl rfl (q_move rfl)) ?_
            refine gp_quietg 5 rfl rfl rfl rfl rfl rfl (.yes rfl rfl (q_move rfl)) ?_
            refine gp_quietg 6 rfl rfl rfl rfl rfl rfl (.yes rfl rfl (q_ixs Try.underlying32 Try.sizeOf44 rfl rfl (by omega) (by omega))) ?_
            refine gp_quietg 7 rfl rfl rfl rfl rfl rfl (.yes rfl rfl (q_fieldAddr fa_44_0 rfl)) ?_
            refine gp_quietg 8 rfl rfl rfl rfl rfl rfl (.yes rfl rfl (q_loadc (v := .int .i64 (aQ Q2 j.toNat)) Try.isAgg3 rfl (qv_cell (by rw [hG2.ql]; omega) 0 rfl))) ?_
            refine gp_quietg 9 rfl rfl rfl rfl rfl rfl (.yes rfl rfl (q_move rfl)) ?_
            refine gp_quietg 10 rfl rfl rfl rfl rfl rfl (.yes rfl rfl (q_move rfl)) ?_
            refine gp_quietg 11 rfl rfl rfl rfl rfl rfl (.yes rfl rfl (q_ixs Try.underlying32 Try.sizeOf44 rfl rfl (by omega) (by omega))) ?_
            refine gp_quietg 12 rfl rfl rfl rfl rfl rfl (.yes rfl rfl (q_fieldAddr fa_44_1 rfl)) ?_
            refine gp_quietg 13 rfl rfl rfl rfl rfl rfl (.yes rfl rfl (q_loadc (v := .int .i64 (gQ Q2 j.toNat)) Try.isAgg3 rfl (qv_cell (by rw [hG2.ql]; omega) 1 rfl))) ?_
            first | refine gp_quietg 14 rfl rfl rfl rfl rfl rfl (.yes rfl rfl (q_sub_ rfl rfl (w_i64 (by omega) (by omega)))) ?_ | refine gp_quietg 14 rfl rfl rfl rfl rfl rfl (.yes rfl rfl (q_subw rfl rfl)) ?_
            refine gp_quietg 15 rfl rfl rfl rfl rfl rfl (.yes rfl rfl (q_neq rfl rfl)) ?_
            refine gp_quiet 16 rfl rfl rfl rfl rfl rfl (q_pick_f rfl rfl) ?_
            refine gp_end rfl rfl ?_
            refine g_cond rfl ?_ ?_
            · intro hbr
              have hbr := of_decide_eq_true hbr
              (exfalso; first | omega | (simp at hbr; done))
            intro hbr
            have hbr := of_decide_eq_false hbr
            refine g_skip ?_
            refine g_inBlock ?_
            refine g_region ?_
            refine l_move rfl rfl ?_
            first | refine l_add rfl rfl rfl (w_i64 (by omega) (by omega)) ?_ | refine l_addw rfl rfl rfl ?_
            refine l_assign rfl rfl ?_
            refine l_nil ?_
            exact g_againi (ihj (j + 1) ⟨by omega, by omega⟩ (by omega)) (.cons rfl (.cons rfl (.cons rfl (.cons rfl (.cons rfl (.cons rfl (.cons rfl (.cons rfl (.cons rfl (.cons rfl (.cons rfl (.cons rfl (.cons rfl (.cons rfl (.cons rfl (.cons rfl (.cons rfl (.cons rfl (.cons rfl (.cons rfl (.cons rfl (.cons rfl (.cons rfl (.cons rfl (.cons rfl (.cons rfl (.cons rfl (.cons rfl (.cons rfl (.cons rfl (.cons rfl (.cons rfl (.cons rfl (.cons rfl (.cons rfl (.cons rfl (.cons rfl (.cons rfl (.cons rfl (.cons rfl (.cons rfl (.cons rfl (.cons rfl (.cons rfl (.cons rfl (.cons rfl (.cons rfl (.cons rfl (.cons rfl (.cons rfl (.cons rfl (.cons rfl (.cons rfl (.cons rfl (.cons rfl (.cons rfl (.cons rfl (.cons rfl (.cons rfl (.cons rfl (.cons rfl (.cons rfl (.cons rfl (.cons rfl (.cons rfl (.cons rfl (.cons rfl (.cons rfl (.cons rfl (.cons rfl (.cons rfl (.cons rfl (.cons rfl (.cons rfl (.cons rfl (.cons rfl (.cons rfl (.cons rfl (.cons rfl (.cons rfl (.cons rfl (.cons rfl (.cons rfl (.cons rfl (.cons rfl (.cons rfl (.cons rfl (.cons rfl (.cons rfl (.cons rfl (.cons rfl (.cons rfl (.cons rfl (.cons rfl (.cons rfl (.cons rfl (.cons rfl (.cons rfl (.cons rfl (.cons rfl (.cons rfl (.cons rfl (.cons rfl (.cons rfl (.cons rfl (.cons rfl (.cons rfl (.cons rfl (.cons rfl (.nil))))))))))))))))))))))))))))))))))))))))))))))))))))))))))))))))))))))))))))))))))))))))))))))))))))))))))))))
          intro hbr
          have hbr := of_decide_eq_false hbr
          refine g_exit rfl ?_
          refine g_seq ?_
          refine g_region ?_
          refine l_move rfl rfl ?_
          refine l_move rfl rfl ?_
          refine l_fronto bq ?_
          refine l_fronto gl ?_
          refine l_call rfl Try.call16 rfl (ready_ok _ _ (some ⟨gl, 0, none⟩) KL.length KL2.length lc bq (KL2.set p k2) (by rw [List.length_set]; exact hG.len) (by rw [List.length_set]; exact Nat.le_refl _) hK5 (.inr ⟨_, rfl⟩) Q2 hG2.ql hG2.f.kok (fun j hj => kid_la (by first | exact List.mem_cons_self .. | exact List.mem_cons_of_mem _ (List.mem_cons_self ..) | exact List.mem_cons_of_mem _ (List.mem_cons_of_mem _ (List.mem_cons_self ..)) | exact List.mem_cons_of_mem _ (List.mem_cons_of_mem _ (List.mem_cons_of_mem _ (List.mem_cons_self ..))) | exact List.mem_cons_of_mem _ (List.mem_cons_of_mem _ (List.mem_cons_of_mem _ (List.mem_cons_of_mem _ (List.mem_cons_self ..)))) | exact List.mem_cons_of_mem _ (List.mem_cons_of_mem _ (List.mem_cons_of_mem _ (List.mem_cons_of_mem _ (List.mem_cons_of_mem _ (List.mem_cons_self ..))))) | exact List.mem_cons_of_mem _ (List.mem_cons_of_mem _ (List.mem_cons_of_mem _ (List.mem_cons_of_mem _ (List.mem_cons_of_mem _ (List.mem_cons_of_mem _ (List.mem_cons_self ..)))))) | exact List.mem_cons_of_mem _ (List.mem_cons_of_mem _ (List.mem_cons_of_mem _ (List.mem_cons_of_mem _ (List.mem_cons_of_mem _ (List.mem_cons_of_mem _ (List.mem_cons_of_mem _ (List.mem_cons_self ..))))))) | exact List.mem_cons_of_mem _ (List.mem_cons_of_mem _ (List.mem_cons_of_mem _ (List.mem_cons_of_mem _ (List.mem_cons_of_mem _ (List.mem_cons_of_mem _ (List.mem_cons_of_mem _ (List.mem_cons_of_mem _ (List.mem_cons_self ..)))))))) | exact List.mem_cons_of_mem _ (List.mem_cons_of_mem _ (List.mem_cons_of_mem _ (List.mem_cons_of_mem _ (List.mem_cons_of_mem _ (List.mem_cons_of_mem _ (List.mem_cons_of_mem _ (List.mem_cons_of_mem _ (List.mem_cons_of_mem _ (List.mem_cons_self ..))))))))) | exact List.mem_cons_of_mem _ (List.mem_cons_of_mem _ (List.mem_cons_of_mem _ (List.mem_cons_of_mem _ (List.mem_cons_of_mem _ (List.mem_cons_of_mem _ (List.mem_cons_of_mem _ (List.mem_cons_of_mem _ (List.mem_cons_of_mem _ (List.mem_cons_of_mem _ (List.mem_cons_self ..)))))))))) | exact List.mem_cons_of_mem _ (List.mem_cons_of_mem _ (List.mem_cons_of_mem _ (List.mem_cons_of_mem _ (List.mem_cons_of_mem _ (List.mem_cons_of_mem _ (List.mem_cons_of_mem _ (List.mem_cons_of_mem _ (List.mem_cons_of_mem _ (List.mem_cons_of_mem _ (List.mem_cons_of_mem _ (List.mem_cons_self ..)))))))))))) hj (hG2.kid j hj) (hKs j hj)) (fun hb => hG2.ready hb)) ?_; rintro _ F9 ⟨rfl, hF9⟩; rw [hF9]; clear hF9 F9
          refine l_not rfl rfl ?_
          refine l_nil ?_
          refine g_cond_f rfl ?_
          refine g_skip ?_
          refine g_inBlock ?_
          refine g_region ?_
          refine l_move rfl rfl ?_
          first | refine l_add rfl rfl rfl (w_i64 (by omega) (by omega)) ?_ | refine l_addw rfl rfl rfl ?_
          refine l_assign rfl rfl ?_
          refine l_nil ?_
          refine g_heap (F' := Blk bm (.cells [Value.slice (some ⟨g, 0, none⟩) 16 c].toArray 81 (0, 0)) :: Own 51 1 (.slice (some ⟨g, 0, none⟩) 16 c) 16 (ints .u32 W2) :: Own 31 5 (.slice (some ⟨gl, 0, none⟩) ((KL2.set p k2)).length lc) ((KL2.set p k2)).length (knR (KL2.set p k2)) :: Own 44 2 (.slice (some ⟨bq, 0, none⟩) 5 5) 5 (qR Q2) :: BigF KL.length (fun j => Blk (kat (KL2.set p k2) j).b (.cells [Value.slice (kat (KL2.set p k2) j).al (kat (KL2.set p k2) j).L.length (kat (KL2.set p k2) j).cl, .int .i64 (kat (KL2.set p k2) j).h, .bool (kat (KL2.set p k2) j).q, .slice (kat (KL2.set p k2) j).tt (kat (KL2.set p k2) j).T.length (kat (KL2.set p k2) j).ct].toArray 84 (0, 0))) :: BigF KL.length (fun j => Own 51 1 (.slice (kat (KL2.set p k2) j).tt (kat (KL2.set p k2) j).T.length (kat (KL2.set p k2) j).ct) (kat (KL2.set p k2) j).T.length (ints .u32 (kat (KL2.set p k2) j).T)) :: BigF KL.length (fun j => Own 3 1 (.slice (kat KL j).al (kat KL j).L.length (kat KL j).cl) (kat KL j).L.length (ints .i64 (kat KL j).L)) :: BigF KL.length (fun j => Own 3 1 (.slice (kat KL j).la (kat KL j).L.length (kat KL j).lc) (kat KL j).L.length (ints .i64 (kat KL j).L)) :: F) (fun w hw => ?_) ?_
          · rw [List.length_set]
            exact SPI.holds (F := BigF KL.length (fun j => Blk (kat (KL2.set p k2) j).b (.cells [Value.slice (kat (KL2.set p k2) j).al (kat (KL2.set p k2) j).L.length (kat (KL2.set p k2) j).cl, .int .i64 (kat (KL2.set p k2) j).h, .bool (kat (KL2.set p k2) j).q, .slice (kat (KL2.set p k2) j).tt (kat (KL2.set p k2) j).T.length (kat (KL2.set p k2) j).ct].toArray 84 (0, 0))) :: BigF KL.length (fun j => Own 51 1 (.slice (kat (KL2.set p k2) j).tt (kat (KL2.set p k2) j).T.length (kat (KL2.set p k2) j).ct) (kat (KL2.set p k2) j).T.length (ints .u32 (kat (KL2.set p k2) j).T)) :: Blk bm (.cells [Value.slice (some ⟨g, 0, none⟩) 16 c].toArray 81 (0, 0)) :: Own 51 1 (.slice (some ⟨g, 0, none⟩) 16 c) 16 (ints .u32 W2) :: Own 31 5 (.slice (some ⟨gl, 0, none⟩) KL2.length lc) KL2.length (knR (KL2.set p k2)) :: Own 44 2 (.slice (some ⟨bq, 0, none⟩) 5 5) 5 (qR Q2) :: BigF KL.length (fun j => Own 3 1 (.slice (kat KL j).al (kat KL j).L.length (kat KL j).cl) (kat KL j).L.length (ints .i64 (kat KL j).L)) :: BigF KL.length (fun j => Own 3 1 (.slice (kat KL j).la (kat KL j).L.length (kat KL j).lc) (kat KL j).L.length (ints .i64 (kat KL j).L)) :: F) (unfocus2 (C1 := fun j => Blk (kat (KL2.set p k2) j).b (.cells [Value.slice (kat (KL2.set p k2) j).al (kat (KL2.set p k2) j).L.length (kat (KL2.set p k2) j).cl, .int .i64 (kat (KL2.set p k2) j).h, .bool (kat (KL2.set p k2) j).q, .slice (kat (KL2.set p k2) j).tt (kat (KL2.set p k2) j).T.length (kat (KL2.set p k2) j).ct].toArray 84 (0, 0))) (C2 := fun j => Own 51 1 (.slice (kat (KL2.set p k2) j).tt (kat (KL2.set p k2) j).T.length (kat (KL2.set p k2) j).ct) (kat (KL2.set p k2) j).T.length (ints .u32 (kat (KL2.set p k2) j).T)) (SPI.holds (F' := Blk k2.b (.cells [Value.slice k2.al k2.L.length k2.cl, .int .i64 k2.h, .bool k2.q, .slice k2.tt k2.T.length k2.ct].toArray 84 (0, 0)) :: Own 51 1 (.slice k2.tt k2.T.length k2.ct) k2.T.length (ints .u32 k2.T) :: BigBut KL.length p (fun j => Blk (kat KL2 j).b (.cells [Value.slice (kat KL2 j).al (kat KL2 j).L.length (kat KL2 j).cl, .int .i64 (kat KL2 j).h, .bool (kat KL2 j).q, .slice (kat KL2 j).tt (kat KL2 j).T.length (kat KL2 j).ct].toArray 84 (0, 0))) :: BigBut KL.length p (fun j => Own 51 1 (.slice (kat KL2 j).tt (kat KL2 j).T.length (kat KL2 j).ct) (kat KL2 j).T.length (ints .u32 (kat KL2 j).T)) :: Blk bm (.cells [Value.slice (some ⟨g, 0, none⟩) 16 c].toArray 81 (0, 0)) :: Own 51 1 (.slice (some ⟨g, 0, none⟩) 16 c) 16 (ints .u32 W2) :: Own 31 5 (.slice (some ⟨gl, 0, none⟩) KL2.length lc) KL2.length (knR (KL2.set p k2)) :: Own 44 2 (.slice (some ⟨bq, 0, none⟩) 5 5) 5 (qR Q2) :: BigF KL.length (fun j => Own 3 1 (.slice (kat KL j).al (kat KL j).L.length (kat KL j).cl) (kat KL j).L.length (ints .i64 (kat KL j).L)) :: BigF KL.length (fun j => Own 3 1 (.slice (kat KL j).la (kat KL j).L.length (kat KL j).lc) (kat KL j).L.length (ints .i64 (kat KL j).L)) :: F) hw) (by simp only [kat_set (by rw [hG.len]; exact hp), if_pos]) (fun k hk hne => by simp only [kat_set (by rw [hG.len]; exact hp), if_neg hne]) (by simp only [kat_set (by rw [hG.len]; exact hp), if_pos]) (fun k hk hne => by simp only [kat_set (by rw [hG.len]; exact hp), if_neg hne]))
          exact g_againi (ih (i + 1, KL2.set p k2, Q2, W2) ⟨by simp only; omega, by simp only; omega, hG2⟩ (by simp only; omega)) (.cons rfl (.cons rfl (.cons rfl (.cons rfl (.cons rfl (.nil))))))
        intro hbr
        refine g_skip ?_
        refine g_seq ?_
        refine g_seq ?_
        refine gp_start mo (by kernel_rfl) (by kernel_rfl) ?_
        (first | have hwl := hok2.2.2.2 hbr | skip)
        refine gp_quiet 0 rfl rfl rfl rfl rfl rfl (q_move rfl) ?_
        refine gp_quiet 1 rfl rfl rfl rfl rfl rfl (q_not rfl) ?_
        refine gp_quiet 2 rfl rfl rfl rfl rfl rfl (q_move rfl) ?_
        refine gp_quietg 3 rfl rfl rfl rfl rfl rfl (.yes rfl rfl (q_move rfl)) ?_
        refine gp_quietg 4 rfl rfl rfl rfl rfl rfl (.yes rfl rfl (q_move rfl)) ?_
        refine gp_quietg 5 rfl rfl rfl rfl rfl rfl (.yes rfl rfl (q_nilCheck rfl)) ?_
        refine gp_quietg 6 rfl rfl rfl rfl rfl rfl (.yes rfl rfl (q_fieldAddr fa_31_2 rfl)) ?_
        refine gp_quietg 7 rfl rfl rfl rfl rfl rfl (.yes rfl rfl (q_loadc (v := .int .i64 k2.h) Try.isAgg3 rfl (kn_cell (by rw [List.length_set]; exact hpK) 2 (by rw [kat_set hpK, if_pos rfl]; rfl)))) ?_
        refine gp_quietg 8 rfl rfl rfl rfl rfl rfl (.yes rfl rfl (q_move rfl)) ?_
        refine gp_quietg 9 rfl rfl rfl rfl rfl rfl (.yes rfl rfl (q_nilCheck rfl)) ?_
        refine gp_quietg 10 rfl rfl rfl rfl rfl rfl (.yes rfl rfl (q_fieldAddr fa_31_1 rfl)) ?_
        refine gp_quietg 11 rfl rfl rfl rfl rfl rfl (.yes rfl rfl (q_loadc (v := .slice k2.la k2.L.length k2.lc) Try.isAgg23 rfl (kn_cell (by rw [List.length_set]; exact hpK) 1 (by rw [kat_set hpK, if_pos rfl]; rfl)))) ?_
        refine gp_quietg 12 rfl rfl rfl rfl rfl rfl (.yes rfl rfl (q_len Try.underlying23 rfl)) ?_
        refine gp_quietg 13 rfl rfl rfl rfl rfl rfl (.yes rfl rfl (q_eql rfl rfl)) ?_
        refine gp_quietg 14 rfl rfl rfl rfl rfl rfl (.yes rfl rfl (q_neqb Try.underlying4 rfl rfl)) ?_
        refine gp_quiet 15 rfl rfl rfl rfl rfl rfl (q_pick_f rfl rfl) ?_
        refine gp_quiet 16 rfl rfl rfl rfl rfl rfl (q_move rfl) ?_
        refine gp_split 141 rfl ?_ ?_
        · intro hbr
          first | (exfalso; simp at hbr; done) | (exfalso; simp at hbr; omega) | (exfalso; first | omega | (simp at hbr; done))
        intro hbr
        have hg141 := hbr
        refine gp_quietg 17 rfl rfl rfl rfl rfl rfl (.yes rfl rfl (q_move rfl)) ?_
        refine gp_quietg 18 rfl rfl rfl rfl rfl rfl (.yes rfl rfl (q_move rfl)) ?_
        refine gp_quietg 19 rfl rfl rfl rfl rfl rfl (.yes rfl rfl (q_nilCheck rfl)) ?_
        refine gp_quietg 20 rfl rfl rfl rfl rfl rfl (.yes rfl rfl (q_fieldAddr fa_31_2 rfl)) ?_
        refine gp_quietg 21 rfl rfl rfl rfl rfl rfl (.yes rfl rfl (q_loadc (v := .int .i64 k2.h) Try.isAgg3 rfl (kn_cell (by rw [List.length_set]; exact hpK) 2 (by rw [kat_set hpK, if_pos rfl]; rfl)))) ?_
        refine gp_quietg 22 rfl rfl rfl rfl rfl rfl (.yes rfl rfl (q_neq rfl rfl)) ?_
        refine gp_quiet 23 rfl rfl rfl rfl rfl rfl (q_pick_f rfl rfl) ?_
        refine gp_quiet 24 rfl rfl rfl rfl rfl rfl (q_move rfl) ?_
        refine gp_split 149 rfl ?_ ?_
        · intro hbr
          have hbr := of_decide_eq_true hbr
          (exfalso; first | omega | (simp at hbr; done))
        intro hbr
        have hg149 := hbr
        have hbr := of_decide_eq_false hbr
        refine gp_quietg 25 rfl rfl rfl rfl rfl rfl (.yes rfl rfl (q_move rfl)) ?_
        refine gp_quietg 26 rfl rfl rfl rfl rfl rfl (.yes rfl rfl (q_move rfl)) ?_
        refine gp_quietg 27 rfl rfl rfl rfl rfl rfl (.yes rfl rfl (q_nilCheck rfl)) ?_
        refine gp_quietg 28 rfl rfl rfl rfl rfl rfl (.yes rfl rfl (q_fieldAddr fa_31_3 rfl)) ?_
        refine gp_quietg 29 rfl rfl rfl rfl rfl rfl (.yes rfl rfl (q_loadc (v := .bool k2.q) Try.isAgg4 rfl (kn_cell (by rw [List.length_set]; exact hpK) 3 (by rw [kat_set hpK, if_pos rfl]; rfl)))) ?_
        refine gp_quietg 30 rfl rfl rfl rfl rfl rfl (.yes rfl rfl (q_neqb Try.underlying4 rfl rfl)) ?_
        refine gp_quiet 31 rfl rfl rfl rfl rfl rfl (q_pick_f rfl rfl) ?_
        refine gp_quiet 32 rfl rfl rfl rfl rfl rfl (q_move rfl) ?_
        refine gp_split 157 rfl ?_ ?_
        · intro hbr
          first | (exfalso; simp at hbr; done) | (exfalso; simp at hbr; omega) | (exfalso; first | omega | (simp at hbr; done))
        intro hbr
        have hg157 := hbr
        refine gp_quietg 33 rfl rfl rfl rfl rfl rfl (.yes rfl rfl (q_move rfl)) ?_
        refine gp_quietg 34 rfl rfl rfl rfl rfl rfl (.yes rfl rfl (q_len Try.underlying38 rfl)) ?_
        refine gp_quietg 35 rfl rfl rfl rfl rfl rfl (.yes rfl rfl (q_move rfl)) ?_
        refine gp_quietg 36 rfl rfl rfl rfl rfl rfl (.yes rfl rfl (q_neq rfl rfl)) ?_
        refine gp_quiet 37 rfl rfl rfl rfl rfl rfl (q_pick_f rfl rfl) ?_
        refine gp_end rfl rfl ?_
        refine g_cond rfl ?_ ?_
        · intro hbr
          have hbr := of_decide_eq_true hbr
          (exfalso; first | omega | (simp at hbr; done))
        intro hbr
        have hbr := of_decide_eq_false hbr
        refine g_skip ?_
        refine g_seq ?_
        refine g_seq ?_
        refine g_region ?_
        refine l_assign rfl rfl ?_
        refine l_nil ?_
        refine g_block ?_
        refine g_loopc (X := Int) [(1, _), (5, _), (8, _), (11, _), (12, _), (13, _), (14, _), (15, _), (16, _), (17, _), (18, _), (19, _), (61, _), (62, _), (63, _), (64, _), (65, _), (66, _), (67, _), (68, _), (69, _), (72, _), (73, _), (74, _), (75, _), (76, _), (77, _), (78, _), (79, _), (80, _), (81, _), (82, _), (83, _), (84, _), (85, _), (86, _), (87, _), (88, _), (89, _), (90, _), (91, _), (92, _), (93, _), (94, _), (95, _), (96, _), (101, _), (102, _), (103, _), (104, _), (105, _), (106, _), (107, _), (108, _), (109, _), (110, _), (111, _), (112, _), (113, _), (114, _), (115, _), (116, _), (117, _), (118, _), (119, _), (120, _), (121, _), (122, _), (125, _), (126, _), (127, _), (128, _), (129, _), (130, _), (131, _), (132, _), (133, _), (134, _), (135, _), (136, _), (137, _), (138, _), (139, _), (140, _), (141, _), (142, _), (143, _), (144, _), (145, _), (146, _), (147, _), (148, _), (149, _), (150, _), (151, _), (152, _), (153, _), (154, _), (155, _), (156, _), (157, _), (158, _), (159, _), (160, _), (161, _), (162, _)] (.cons rfl (.cons rfl (.cons rfl (.cons rfl (.cons rfl (.cons rfl (.cons rfl (.cons rfl (.cons rfl (.cons rfl (.cons rfl (.cons rfl (.cons rfl (.cons rfl (.cons rfl (.cons rfl (.cons rfl (.cons rfl (.cons rfl (.cons rfl (.cons rfl (.cons rfl (.cons rfl (.cons rfl (.cons rfl (.cons rfl (.cons rfl (.cons rfl (.cons rfl (.cons rfl (.cons rfl (.cons rfl (.cons rfl (.cons rfl (.cons rfl (.cons rfl (.cons rfl (.cons rfl (.cons rfl (.cons rfl (.cons rfl (.cons rfl (.cons rfl (.cons rfl (.cons rfl (.cons rfl (.cons rfl (.cons rfl (.cons rfl (.cons rfl (.cons rfl (.cons rfl (.cons rfl (.cons rfl (.cons rfl (.cons rfl (.cons rfl (.cons rfl (.cons rfl (.cons rfl (.cons rfl (.cons rfl (.cons rfl (.cons rfl (.cons rfl (.cons rfl (.cons rfl (.cons rfl (.cons rfl (.cons rfl (.cons rfl (.cons rfl (.cons rfl (.cons rfl (.cons rfl (.cons rfl (.cons rfl (.cons rfl (.cons rfl (.cons rfl (.cons rfl (.cons rfl (.cons rfl (.cons rfl (.cons rfl (.cons rfl (.cons rfl (.cons rfl (.cons rfl (.cons rfl (.cons rfl (.cons rfl (.cons rfl (.cons rfl (.cons rfl (.cons rfl (.cons rfl (.cons rfl (.cons rfl (.cons rfl (.cons rfl (.cons rfl (.cons rfl (.cons rfl (.cons rfl (.cons rfl (.nil))))))))))))))))))))))))))))))))))))))))))))))))))))))))))))))))))))))))))))))))))))))))))))))))))))))))))) (fun j => 0 ≤ j ∧ j ≤ 5) (fun j => (5 - j).toNat) (fun j => [(20, .int .i64 j)]) (0) (⟨by omega, by omega⟩) (.cons rfl .nil) ?_
        rintro j ⟨j0, j1⟩ ihj
        dsimp only [List.cons_append, List.nil_append] at ihj ⊢
        refine g_seq ?_
        refine g_seq ?_
        refine g_region ?_
        refine l_move rfl rfl ?_
        refine l_lss rfl rfl rfl ?_
        refine l_nil ?_
        refine g_cond rfl ?_ ?_
        · intro hbr
          have hbr := of_decide_eq_true hbr
          refine g_skip ?_
          refine g_seq ?_
          refine g_block ?_
          refine g_seq ?_
          refine g_region ?_
          have hwt := hG2.wait hK5 j0 (show j < 5 by omega)
          refine l_move rfl rfl ?_
          refine l_move rfl rfl ?_
          first | refine l_mul rfl rfl rfl (w_i64 (by omega) (by omega)) ?_ | refine l_mulw rfl rfl rfl ?_
          refine l_fronto g ?_
          refine l_frontb bm ?_
          refine l_call rfl Try.call15 rfl (lwait_ok _ _ bm g 16 c W2 hG2.f.wl hc (by omega) (2 * j) (by omega) (by omega) hwt.1) ?_; rintro _ _ ⟨rfl, rfl⟩
          rw [hwt.2]
          have hge := hG2.f.ge j.toNat (by omega)
          have hbd := hG2.bd2 (by omega) (show j.toNat < 5 by omega)
          refine l_move rfl rfl ?_
          refine l_extract rfl rfl rfl ?_
          refine l_extract rfl rfl rfl ?_
          refine l_assign rfl rfl ?_
          refine l_assign rfl rfl ?_
          refine l_nil ?_
          refine g_seq ?_
          refine gp_start mo (by kernel_rfl) (by kernel_rfl) ?_
          refine gp_quiet 0 rfl rfl rfl rfl rfl rfl (q_move rfl) ?_
          refine gp_quiet 1 rfl rfl rfl rfl rfl rfl (q_neq rfl rfl) ?_
          refine gp_quiet 2 rfl rfl rfl rfl rfl rfl (q_move rfl) ?_
          refine gp_split 176 rfl ?_ ?_
          · intro hbr
            have hbr := of_decide_eq_true hbr
            (exfalso; first | omega | (simp at hbr; done))
          intro hbr
          have hg176 := hbr
          have hbr := of_decide_eq_false hbr
          refine gp_quietg 3 rfl rfl rfl rfl rfl rfl (.yes rfl rfl (q_move rfl)) ?_
          refine gp_quietg 4 rfl rfl rfl rfl rfl rfl (.yes rfl rfl (q_move rfl)) ?_
          refine gp_quietg 5 rfl rfl rfl rfl rfl rfl (.yes rfl rfl (q_move rfl)) ?_
          refine gp_quietg 6 rfl rfl rfl rfl rfl rfl (.yes rfl rfl (q_ixs Try.underlying32 Try.sizeOf44 rfl rfl (by omega) (by omega))) ?_
          refine gp_quietg 7 rfl rfl rfl rfl rfl rfl (.yes rfl rfl (q_fieldAddr fa_44_0 rfl)) ?_
          refine gp_quietg 8 rfl rfl rfl rfl rfl rfl (.yes rfl rfl (q_loadc (v := .int .i64 (aQ Q2 j.toNat)) Try.isAgg3 rfl (qv_cell (by rw [hG2.ql]; omega) 0 rfl))) ?_
          refine gp_quietg 9 rfl rfl rfl rfl rfl rfl (.yes rfl rfl (q_move rfl)) ?_
          refine gp_quietg 10 rfl rfl rfl rfl rfl rfl (.yes rfl rfl (q_move rfl)) ?_
          refine gp_quietg 11 rfl rfl rfl rfl rfl rfl (.yes rfl rfl (q_ixs Try.underlying32 Try.sizeOf44 rfl rfl (by omega) (by omega))) ?_
          refine gp_quietg 12 rfl rfl rfl rfl rfl rfl (.yes rfl rfl (q_fieldAddr fa_44_1 rfl)) ?_
          refine gp_quietg 13 rfl rfl rfl rfl rfl rfl (.yes rfl rfl (q_loadc (v := .int .i64 (gQ Q2 j.toNat)) Try.isAgg3 rfl (qv_cell (by rw [hG2.ql]; omega) 1 rfl))) ?_
          first | refine gp_quietg 14 rfl rfl rfl rfl rfl rfl (.yes rfl rfl (q_sub_ rfl rfl (w_i64 (by omega) (by omega)))) ?_ | refine gp_quietg 14 rfl rfl rfl rfl rfl rfl (.yes rfl rfl (q_subw rfl rfl)) ?_
          refine gp_quietg 15 rfl rfl rfl rfl rfl rfl (.yes rfl rfl (q_neq rfl rfl)) ?_
          refine gp_quiet 16 rfl rfl rfl rfl rfl rfl (q_pick_f rfl rfl) ?_
          refine gp_end rfl rfl ?_
          refine g_cond rfl ?_ ?_
          · intro hbr
            have hbr := of_decide_eq_true hbr
            (exfalso; first | omega | (simp at hbr; done))
          intro hbr
          have hbr := of_decide_eq_false hbr
          refine g_skip ?_
          refine g_inBlock ?_
          refine g_region ?_
          refine l_move rfl rfl ?_
          first | refine l_add rfl rfl rfl (w_i64 (by omega) (by omega)) ?_ | refine l_addw rfl rfl rfl ?_
          refine l_assign rfl rfl ?_
          refine l_nil ?_
          exact g_againi (ihj (j + 1) ⟨by omega, by omega⟩ (by omega)) (.cons rfl (.cons rfl (.cons rfl (.cons rfl (.cons rfl (.cons rfl (.cons rfl (.cons rfl (.cons rfl (.cons rfl (.cons rfl (.cons rfl (.cons rfl (.cons rfl (.cons rfl (.cons rfl (.cons rfl (.cons rfl (.cons rfl (.cons rfl (.cons rfl (.cons rfl (.cons rfl (.cons rfl (.cons rfl (.cons rfl (.cons rfl (.cons rfl (.cons rfl (.cons rfl (.cons rfl (.cons rfl (.cons rfl (.cons rfl (.cons rfl (.cons rfl (.cons rfl (.cons rfl (.cons rfl (.cons rfl (.cons rfl (.cons rfl (.cons rfl (.cons rfl (.cons rfl (.cons rfl (.cons rfl (.cons rfl (.cons rfl (.cons rfl (.cons rfl (.cons rfl (.cons rfl (.cons rfl (.cons rfl (.cons rfl (.cons rfl (.cons rfl (.cons rfl (.cons rfl (.cons rfl (.cons rfl (.cons rfl (.cons rfl (.cons rfl (.cons rfl (.cons rfl (.cons rfl (.cons rfl (.cons rfl (.cons rfl (.cons rfl (.cons rfl (.cons rfl (.cons rfl (.cons rfl (.cons rfl (.cons rfl (.cons rfl (.cons rfl (.cons rfl (.cons rfl (.cons rfl (.cons rfl (.cons rfl (.cons rfl (.cons rfl (.cons rfl (.cons rfl (.cons rfl (.cons rfl (.cons rfl (.cons rfl (.cons rfl (.cons rfl (.cons rfl (.cons rfl (.cons rfl (.cons rfl (.cons rfl (.cons rfl (.cons rfl (.cons rfl (.cons rfl (.cons rfl (.cons rfl (.cons rfl (.nil))))))))))))))))))))))))))))))))))))))))))))))))))))))))))))))))))))))))))))))))))))))))))))))))))))))))))))
        intro hbr
        have hbr := of_decide_eq_false hbr
        refine g_exit rfl ?_
        refine g_seq ?_
        refine g_region ?_
        refine l_move rfl rfl ?_
        refine l_move rfl rfl ?_
        refine l_fronto bq ?_
        refine l_fronto gl ?_
        refine l_call rfl Try.call16 rfl (ready_ok _ _ (some ⟨gl, 0, none⟩) KL.length KL2.length lc bq (KL2.set p k2) (by rw [List.length_set]; exact hG.len) (by rw [List.length_set]; exact Nat.le_refl _) hK5 (.inr ⟨_, rfl⟩) Q2 hG2.ql hG2.f.kok (fun j hj => kid_la (by first | exact List.mem_cons_self .. | exact List.mem_cons_of_mem _ (List.mem_cons_self ..) | exact List.mem_cons_of_mem _ (List.mem_cons_of_mem _ (List.mem_cons_self ..)) | exact List.mem_cons_of_mem _ (List.mem_cons_of_mem _ (List.mem_cons_of_mem _ (List.mem_cons_self ..))) | exact List.mem_cons_of_mem _ (List.mem_cons_of_mem _ (List.mem_cons_of_mem _ (List.mem_cons_of_mem _ (List.mem_cons_self ..)))) | exact List.mem_cons_of_mem _ (List.mem_cons_of_mem _ (List.mem_cons_of_mem _ (List.mem_cons_of_mem _ (List.mem_cons_of_mem _ (List.mem_cons_self ..))))) | exact List.mem_cons_of_mem _ (List.mem_cons_of_mem _ (List.mem_cons_of_mem _ (List.mem_cons_of_mem _ (List.mem_cons_of_mem _ (List.mem_cons_of_mem _ (List.mem_cons_self ..)))))) | exact List.mem_cons_of_mem _ (List.mem_cons_of_mem _ (List.mem_cons_of_mem _ (List.mem_cons_of_mem _ (List.mem_cons_of_mem _ (List.mem_cons_of_mem _ (List.mem_cons_of_mem _ (List.mem_cons_self ..))))))) | exact List.mem_cons_of_mem _ (List.mem_cons_of_mem _ (List.mem_cons_of_mem _ (List.mem_cons_of_mem _ (List.mem_cons_of_mem _ (List.mem_cons_of_mem _ (List.mem_cons_of_mem _ (List.mem_cons_of_mem _ (List.mem_cons_self ..)))))))) | exact List.mem_cons_of_mem _ (List.mem_cons_of_mem _ (List.mem_cons_of_mem _ (List.mem_cons_of_mem _ (List.mem_cons_of_mem _ (List.mem_cons_of_mem _ (List.mem_cons_of_mem _ (List.mem_cons_of_mem _ (List.mem_cons_of_mem _ (List.mem_cons_self ..))))))))) | exact List.mem_cons_of_mem _ (List.mem_cons_of_mem _ (List.mem_cons_of_mem _ (List.mem_cons_of_mem _ (List.mem_cons_of_mem _ (List.mem_cons_of_mem _ (List.mem_cons_of_mem _ (List.mem_cons_of_mem _ (List.mem_cons_of_mem _ (List.mem_cons_of_mem _ (List.mem_cons_self ..)))))))))) | exact List.mem_cons_of_mem _ (List.mem_cons_of_mem _ (List.mem_cons_of_mem _ (List.mem_cons_of_mem _ (List.mem_cons_of_mem _ (List.mem_cons_of_mem _ (List.mem_cons_of_mem _ (List.mem_cons_of_mem _ (List.mem_cons_of_mem _ (List.mem_cons_of_mem _ (List.mem_cons_of_mem _ (List.mem_cons_self ..)))))))))))) hj (hG2.kid j hj) (hKs j hj)) (fun hb => hG2.ready hb)) ?_; rintro _ F9 ⟨rfl, hF9⟩; rw [hF9]; clear hF9 F9
        refine l_not rfl rfl ?_
        refine l_nil ?_
        refine g_cond_f rfl ?_
        refine g_skip ?_
        refine g_inBlock ?_
        refine g_region ?_
        refine l_move rfl rfl ?_
        first | refine l_add rfl rfl rfl (w_i64 (by omega) (by omega)) ?_ | refine l_addw rfl rfl rfl ?_
        refine l_assign rfl rfl ?_
        refine l_nil ?_
        refine g_heap (F' := Blk bm (.cells [Value.slice (some ⟨g, 0, none⟩) 16 c].toArray 81 (0, 0)) :: Own 51 1 (.slice (some ⟨g, 0, none⟩) 16 c) 16 (ints .u32 W2) :: Own 31 5 (.slice (some ⟨gl, 0, none⟩) ((KL2.set p k2)).length lc) ((KL2.set p k2)).length (knR (KL2.set p k2)) :: Own 44 2 (.slice (some ⟨bq, 0, none⟩) 5 5) 5 (qR Q2) :: BigF KL.length (fun j => Blk (kat (KL2.set p k2) j).b (.cells [Value.slice (kat (KL2.set p k2) j).al (kat (KL2.set p k2) j).L.length (kat (KL2.set p k2) j).cl, .int .i64 (kat (KL2.set p k2) j).h, .bool (kat (KL2.set p k2) j).q, .slice (kat (KL2.set p k2) j).tt (kat (KL2.set p k2) j).T.length (kat (KL2.set p k2) j).ct].toArray 84 (0, 0))) :: BigF KL.length (fun j => Own 51 1 (.slice (kat (KL2.set p k2) j).tt (kat (KL2.set p k2) j).T.length (kat (KL2.set p k2) j).ct) (kat (KL2.set p k2) j).T.length (ints .u32 (kat (KL2.set p k2) j).T)) :: BigF KL.length (fun j => Own 3 1 (.slice (kat KL j).al (kat KL j).L.length (kat KL j).cl) (kat KL j).L.length (ints .i64 (kat KL j).L)) :: BigF KL.length (fun j => Own 3 1 (.slice (kat KL j).la (kat KL j).L.length (kat KL j).lc) (kat KL j).L.length (ints .i64 (kat KL j).L)) :: F) (fun w hw => ?_) ?_
        · rw [List.length_set]
          exact SPI.holds (F := BigF KL.length (fun j => Blk (kat (KL2.set p k2) j).b (.cells [Value.slice (kat (KL2.set p k2) j).al (kat (KL2.set p k2) j).L.length (kat (KL2.set p k2) j).cl, .int .i64 (kat (KL2.set p k2) j).h, .bool (kat (KL2.set p k2) j).q, .slice (kat (KL2.set p k2) j).tt (kat (KL2.set p k2) j).T.length (kat (KL2.set p k2) j).ct].toArray 84 (0, 0))) :: BigF KL.length (fun j => Own 51 1 (.slice (kat (KL2.set p k2) j).tt (kat (KL2.set p k2) j).T.length (kat (KL2.set p k2) j).ct) (kat (KL2.set p k2) j).T.length (ints .u32 (kat (KL2.set p k2) j).T)) :: Blk bm (.cells [Value.slice (some ⟨g, 0, none⟩) 16 c].toArray 81 (0, 0)) :: Own 51 1 (.slice (some ⟨g, 0, none⟩) 16 c) 16 (ints .u32 W2) :: Own 31 5 (.slice (some ⟨gl, 0, none⟩) KL2.length lc) KL2.length (knR (KL2.set p k2)) :: Own 44 2 (.slice (some ⟨bq, 0, none⟩) 5 5) 5 (qR Q2) :: BigF KL.length (fun j => Own 3 1 (.slice (kat KL j).al (kat KL j).L.length (kat KL j).cl) (kat KL j).L.length (ints .i64 (kat KL j).L)) :: BigF KL.length (fun j => Own 3 1 (.slice (kat KL j).la (kat KL j).L.length (kat KL j).lc) (kat KL j).L.length (ints .i64 (kat KL j).L)) :: F) (unfocus2 (C1 := fun j => Blk (kat (KL2.set p k2) j).b (.cells [Value.slice (kat (KL2.set p k2) j).al (kat (KL2.set p k2) j).L.length (kat (KL2.set p k2) j).cl, .int .i64 (kat (KL2.set p k2) j).h, .bool (kat (KL2.set p k2) j).q, .slice (kat (KL2.set p k2) j).tt (kat (KL2.set p k2) j).T.length (kat (KL2.set p k2) j).ct].toArray 84 (0, 0))) (C2 := fun j => Own 51 1 (.slice (kat (KL2.set p k2) j).tt (kat (KL2.set p k2) j).T.length (kat (KL2.set p k2) j).ct) (kat (KL2.set p k2) j).T.length (ints .u32 (kat (KL2.set p k2) j).T)) (SPI.holds (F' := Blk k2.b (.cells [Value.slice k2.al k2.L.length k2.cl, .int .i64 k2.h, .bool k2.q, .slice k2.tt k2.T.length k2.ct].toArray 84 (0, 0)) :: Own 51 1 (.slice k2.tt k2.T.length k2.ct) k2.T.length (ints .u32 k2.T) :: BigBut KL.length p (fun j => Blk (kat KL2 j).b (.cells [Value.slice (kat KL2 j).al (kat KL2 j).L.length (kat KL2 j).cl, .int .i64 (kat KL2 j).h, .bool (kat KL2 j).q, .slice (kat KL2 j).tt (kat KL2 j).T.length (kat KL2 j).ct].toArray 84 (0, 0))) :: BigBut KL.length p (fun j => Own 51 1 (.slice (kat KL2 j).tt (kat KL2 j).T.length (kat KL2 j).ct) (kat KL2 j).T.length (ints .u32 (kat KL2 j).T)) :: Blk bm (.cells [Value.slice (some ⟨g, 0, none⟩) 16 c].toArray 81 (0, 0)) :: Own 51 1 (.slice (some ⟨g, 0, none⟩) 16 c) 16 (ints .u32 W2) :: Own 31 5 (.slice (some ⟨gl, 0, none⟩) KL2.length lc) KL2.length (knR (KL2.set p k2)) :: Own 44 2 (.slice (some ⟨bq, 0, none⟩) 5 5) 5 (qR Q2) :: BigF KL.length (fun j => Own 3 1 (.slice (kat KL j).al (kat KL j).L.length (kat KL j).cl) (kat KL j).L.length (ints .i64 (kat KL j).L)) :: BigF KL.length (fun j => Own 3 1 (.slice (kat KL j).la (kat KL j).L.length (kat KL j).lc) (kat KL j).L.length (ints .i64 (kat KL j).L)) :: F) hw) (by simp only [kat_set (by rw [hG.len]; exact hp), if_pos]) (fun k hk hne => by simp only [kat_set (by rw [hG.len]; exact hp), if_neg hne]) (by simp only [kat_set (by rw [hG.len]; exact hp), if_pos]) (fun k hk hne => by simp only [kat_set (by rw [hG.len]; exact hp), if_neg hne]))
        exact g_againi (ih (i + 1, KL2.set p k2, Q2, W2) ⟨by simp only; omega, by simp only; omega, hG2⟩ (by simp only; omega)) (.cons rfl (.cons rfl (.cons rfl (.cons rfl (.cons rfl (.nil))))))
      intro hbr
      have hbr := of_decide_eq_false hbr
      refine g_region ?_
      refine gl_heap (F' := Blk bm (.cells [Value.slice (some ⟨g, 0, none⟩) 16 c].toArray 81 (0, 0)) :: Own 51 1 (.slice (some ⟨g, 0, none⟩) 16 c) 16 (ints .u32 W) :: Blk (kat KL2 p).b (.cells [Value.slice (kat KL2 p).al (kat KL2 p).L.length (kat KL2 p).cl, .int .i64 (kat KL2 p).h, .bool (kat KL2 p).q, .slice (kat KL2 p).tt (kat KL2 p).T.length (kat KL2 p).ct].toArray 84 (0, 0)) :: Own 51 1 (.slice (kat KL2 p).tt (kat KL2 p).T.length (kat KL2 p).ct) (kat KL2 p).T.length (ints .u32 (kat KL2 p).T) :: Own 31 5 (.slice (some ⟨gl, 0, none⟩) (KL2).length lc) (KL2).length (knR KL2) :: Own 44 2 (.slice (some ⟨bq, 0, none⟩) 5 5) 5 (qR Q) :: BigBut KL.length p (fun j => Blk (kat KL2 j).b (.cells [Value.slice (kat KL2 j).al (kat KL2 j).L.length (kat KL2 j).cl, .int .i64 (kat KL2 j).h, .bool (kat KL2 j).q, .slice (kat KL2 j).tt (kat KL2 j).T.length (kat KL2 j).ct].toArray 84 (0, 0))) :: BigBut KL.length p (fun j => Own 51 1 (.slice (kat KL2 j).tt (kat KL2 j).T.length (kat KL2 j).ct) (kat KL2 j).T.length (ints .u32 (kat KL2 j).T)) :: BigF KL.length (fun j => Own 3 1 (.slice (kat KL j).al (kat KL j).L.length (kat KL j).cl) (kat KL j).L.length (ints .i64 (kat KL j).L)) :: BigF KL.length (fun j => Own 3 1 (.slice (kat KL j).la (kat KL j).L.length (kat KL j).lc) (kat KL j).L.length (ints .i64 (kat KL j).L)) :: F) (fun w hw => SPI.holds (focus2 (SPI.holds (F' := BigF KL.length (fun j => Blk (kat KL2 j).b (.cells [Value.slice (kat KL2 j).al (kat KL2 j).L.length (kat KL2 j).cl, .int .i64 (kat KL2 j).h, .bool (kat KL2 j).q, .slice (kat KL2 j).tt (kat KL2 j).T.length (kat KL2 j).ct].toArray 84 (0, 0))) :: BigF KL.length (fun j => Own 51 1 (.slice (kat KL2 j).tt (kat KL2 j).T.length (kat KL2 j).ct) (kat KL2 j).T.length (ints .u32 (kat KL2 j).T)) :: Blk bm (.cells [Value.slice (some ⟨g, 0, none⟩) 16 c].toArray 81 (0, 0)) :: Own 51 1 (.slice (some ⟨g, 0, none⟩) 16 c) 16 (ints .u32 W) :: Own 31 5 (.slice (some ⟨gl, 0, none⟩) (KL2).length lc) (KL2).length (knR KL2) :: Own 44 2 (.slice (some ⟨bq, 0, none⟩) 5 5) 5 (qR Q) :: BigF KL.length (fun j => Own 3 1 (.slice (kat KL j).al (kat KL j).L.length (kat KL j).cl) (kat KL j).L.length (ints .i64 (kat KL j).L)) :: BigF KL.length (fun j => Own 3 1 (.slice (kat KL j).la (kat KL j).L.length (kat KL j).lc) (kat KL j).L.length (ints .i64 (kat KL j).L)) :: F) hw) hp)) ?_
      refine l_move rfl rfl ?_
      refine l_move rfl rfl ?_
      refine l_move rfl rfl ?_
      refine l_call rfl Try.call9 rfl (moves_ok _ _ bm g c W hc gl lc KL2 p (by rw [hG.len]; exact hp) bq Q (kat KL2 p) rfl (hG.loc hKs hK5 (by omega) hp) (kid_al (by first | exact List.mem_cons_of_mem _ (List.mem_cons_of_mem _ (List.mem_cons_self ..)) | exact List.mem_cons_of_mem _ (List.mem_cons_of_mem _ (List.mem_cons_of_mem _ (List.mem_cons_self ..)))) hp (hG.kid p hp) (hKs p hp)) (kid_la (by first | exact List.mem_cons_of_mem _ (List.mem_cons_of_mem _ (List.mem_cons_self ..)) | exact List.mem_cons_of_mem _ (List.mem_cons_of_mem _ (List.mem_cons_of_mem _ (List.mem_cons_self ..)))) hp (hG.kid p hp) (hKs p hp)) (hG.tk p hp)) ?_; rintro _ _ ⟨k2, Q2, W2, rfl, rfl, htt2, hM⟩
      have hG2 := hG.moved hp htt2 hM
      refine l_assign rfl rfl ?_
      refine l_nil ?_
      refine g_seq ?_
      refine g_region ?_
      have hkid2 := (hG2.kid p hp)
      have hkok2 := hG2.f.kok p hp
      have htk2 := hG2.f
      rw [kat_set hpK, if_pos rfl] at hkok2 hkid2
      have hok2 := hkok2.ok
      have hl24 := hkok2.len
      have hT5 := hok2.len
      clear htk2
      refine l_move rfl rfl ?_
      refine l_nilCheck rfl rfl ?_
      refine l_fieldAddr rfl fa_31_0 rfl ?_
      refine l_loadc rfl (v := .pointer (some ⟨k2.b, 0, none⟩)) Try.isAgg28 rfl (kn_cell (by rw [List.length_set]; exact hpK) 0 (by rw [kat_set hpK, if_pos rfl]; rfl)) ?_
      refine l_frontb k2.b ?_
      refine l_call rfl Try.call10 rfl (chall_ok _ _ k2.b k2.al k2.cl k2.L k2.h k2.q k2.tt k2.T.length k2.ct (by omega) hok2.1 hok2.2.1) ?_; rintro _ _ ⟨rfl, rfl⟩
      refine l_assign rfl rfl ?_
      refine l_nil ?_
      refine g_seq ?_
      refine g_region ?_
      refine l_move rfl rfl ?_
      refine l_nilCheck rfl rfl ?_
      refine l_fieldAddr rfl fa_31_0 rfl ?_
      refine l_loadc rfl (v := .pointer (some ⟨k2.b, 0, none⟩)) Try.isAgg28 rfl (kn_cell (by rw [List.length_set]; exact hpK) 0 (by rw [kat_set hpK, if_pos rfl]; rfl)) ?_
      refine l_frontv (.slice k2.tt k2.T.length k2.ct) ?_
      refine l_frontb k2.b ?_
      refine l_call rfl Try.call14 rfl (chstate_ok _ _ k2.b k2.al k2.cl k2.L k2.h k2.q k2.tt k2.T.length k2.ct k2.T rfl (by omega)) ?_; rintro _ _ ⟨a2, c2, rfl, ha2, rfl⟩
      refine l_move rfl rfl ?_
      refine l_extract rfl rfl rfl ?_
      refine l_extract rfl rfl rfl ?_
      refine l_extract rfl rfl rfl ?_
      refine l_assign rfl rfl ?_
      refine l_assign rfl rfl ?_
      refine l_assign rfl rfl ?_
      refine l_nil ?_
      refine g_seq ?_
      refine g_region ?_
      refine l_move rfl rfl ?_
      refine l_nilCheck rfl rfl ?_
      refine l_fieldAddr rfl fa_31_2 rfl ?_
      refine l_loadc rfl (v := .int .i64 k2.h) Try.isAgg3 rfl (kn_cell (by rw [List.length_set]; exact hpK) 2 (by rw [kat_set hpK, if_pos rfl]; rfl)) ?_
      refine l_assign rfl rfl ?_
      refine l_nil ?_
      refine g_seq ?_
      refine g_seq ?_
      refine g_region ?_
      refine l_move rfl rfl ?_
      refine l_nilCheck rfl rfl ?_
      refine l_fieldAddr rfl fa_31_3 rfl ?_
      refine l_loadc rfl (v := .bool k2.q) Try.isAgg4 rfl (kn_cell (by rw [List.length_set]; exact hpK) 3 (by rw [kat_set hpK, if_pos rfl]; rfl)) ?_
      refine l_nil ?_
      refine g_cond rfl ?_ ?_
      · intro hbr
        refine g_region ?_
        have hwl := hok2.2.2.1 hbr
        refine l_move rfl rfl ?_
        first | refine l_add rfl rfl rfl (w_i64 (by omega) (by omega)) ?_ | refine l_addw rfl rfl rfl ?_
        refine l_assign rfl rfl ?_
        refine l_nil ?_
        refine g_seq ?_
        refine g_seq ?_
        refine gp_start mo (by kernel_rfl) (by kernel_rfl) ?_
        (first | have hwl := hok2.2.2.2 hbr | skip)
        refine gp_quiet 0 rfl rfl rfl rfl rfl rfl (q_move rfl) ?_
        refine gp_quiet 1 rfl rfl rfl rfl rfl rfl (q_not rfl) ?_
        refine gp_quiet 2 rfl rfl rfl rfl rfl rfl (q_move rfl) ?_
        refine gp_quietg 3 rfl rfl rfl rfl rfl rfl (.yes rfl rfl (q_move rfl)) ?_
        refine gp_quietg 4 rfl rfl rfl rfl rfl rfl (.yes rfl rfl (q_move rfl)) ?_
        refine gp_quietg 5 rfl rfl rfl rfl rfl rfl (.yes rfl rfl (q_nilCheck rfl)) ?_
        refine gp_quietg 6 rfl rfl rfl rfl rfl rfl (.yes rfl rfl (q_fieldAddr fa_31_2 rfl)) ?_
        refine gp_quietg 7 rfl rfl rfl rfl rfl rfl (.yes rfl rfl (q_loadc (v := .int .i64 k2.h) Try.isAgg3 rfl (kn_cell (by rw [List.length_set]; exact hpK) 2 (by rw [kat_set hpK, if_pos rfl]; rfl)))) ?_
        refine gp_quietg 8 rfl rfl rfl rfl rfl rfl (.yes rfl rfl (q_move rfl)) ?_
        refine gp_quietg 9 rfl rfl rfl rfl rfl rfl (.yes rfl rfl (q_nilCheck rfl)) ?_
        refine gp_quietg 10 rfl rfl rfl rfl rfl rfl (.yes rfl rfl (q_fieldAddr fa_31_1 rfl)) ?_
        refine gp_quietg 11 rfl rfl rfl rfl rfl rfl (.yes rfl rfl (q_loadc (v := .slice k2.la k2.L.length k2.lc) Try.isAgg23 rfl (kn_cell (by rw [List.length_set]; exact hpK) 1 (by rw [kat_set hpK, if_pos rfl]; rfl)))) ?_
        refine gp_quietg 12 rfl rfl rfl rfl rfl rfl (.yes rfl rfl (q_len Try.underlying23 rfl)) ?_
        refine gp_quietg 13 rfl rfl rfl rfl rfl rfl (.yes rfl rfl (q_eql rfl rfl)) ?_
        refine gp_quietg 14 rfl rfl rfl rfl rfl rfl (.yes rfl rfl (q_neqb Try.underlying4 rfl rfl)) ?_
        refine gp_quiet 15 rfl rfl rfl rfl rfl rfl (q_pick_f rfl rfl) ?_
        refine gp_quiet 16 rfl rfl rfl rfl rfl rfl (q_move rfl) ?_
        refine gp_split 141 rfl ?_ ?_
        · intro hbr
          first | (exfalso; simp at hbr; done) | (exfalso; simp at hbr; omega) | (exfalso; first | omega | (simp at hbr; done))
        intro hbr
        have hg141 := hbr
        refine gp_quietg 17 rfl rfl rfl rfl rfl rfl (.yes rfl rfl (q_move rfl)) ?_
        refine gp_quietg 18 rfl rfl rfl rfl rfl rfl (.yes rfl rfl (q_move rfl)) ?_
        refine gp_quietg 19 rfl rfl rfl rfl rfl rfl (.yes rfl rfl (q_nilCheck rfl)) ?_
        refine gp_quietg 20 rfl rfl rfl rfl rfl rfl (.yes rfl rfl (q_fieldAddr fa_31_2 rfl)) ?_
        refine gp_quietg 21 rfl rfl rfl rfl rfl rfl (.yes rfl rfl (q_loadc (v := .int .i64 k2.h) Try.isAgg3 rfl (kn_cell (by rw [List.length_set]; exact hpK) 2 (by rw [kat_set hpK, if_pos rfl]; rfl)))) ?_
        refine gp_quietg 22 rfl rfl rfl rfl rfl rfl (.yes rfl rfl (q_neq rfl rfl)) ?_
        refine gp_quiet 23 rfl rfl rfl rfl rfl rfl (q_pick_f rfl rfl) ?_
        refine gp_quiet 24 rfl rfl rfl rfl rfl rfl (q_move rfl) ?_
        refine gp_split 149 rfl ?_ ?_
        · intro hbr
          have hbr := of_decide_eq_true hbr
          (exfalso; first | omega | (simp at hbr; done))
        intro hbr
        have hg149 := hbr
        have hbr := of_decide_eq_false hbr
        refine gp_quietg 25 rfl rfl rfl rfl rfl rfl (.yes rfl rfl (q_move rfl)) ?_
        refine gp_quietg 26 rfl rfl rfl rfl rfl rfl (.yes rfl rfl (q_move rfl)) ?_
        refine gp_quietg 27 rfl rfl rfl rfl rfl rfl (.yes rfl rfl (q_nilCheck rfl)) ?_
        refine gp_quietg 28 rfl rfl rfl rfl rfl rfl (.yes rfl rfl (q_fieldAddr fa_31_3 rfl)) ?_
        refine gp_quietg 29 rfl rfl rfl rfl rfl rfl (.yes rfl rfl (q_loadc (v := .bool k2.q) Try.isAgg4 rfl (kn_cell (by rw [List.length_set]; exact hpK) 3 (by rw [kat_set hpK, if_pos rfl]; rfl)))) ?_
        refine gp_quietg 30 rfl rfl rfl rfl rfl rfl (.yes rfl rfl (q_neqb Try.underlying4 rfl rfl)) ?_
        refine gp_quiet 31 rfl rfl rfl rfl rfl rfl (q_pick_f rfl rfl) ?_
        refine gp_quiet 32 rfl rfl rfl rfl rfl rfl (q_move rfl) ?_
        refine gp_split 157 rfl ?_ ?_
        · intro hbr
          first | (exfalso; simp at hbr; done) | (exfalso; simp at hbr; omega) | (exfalso; first | omega | (simp at hbr; done))
        intro hbr
        have hg157 := hbr
        refine gp_quietg 33 rfl rfl rfl rfl rfl rfl (.yes rfl rfl (q_move rfl)) ?_
        refine gp_quietg 34 rfl rfl rfl rfl rfl rfl (.yes rfl rfl (q_len Try.underlying38 rfl)) ?_
        refine gp_quietg 35 rfl rfl rfl rfl rfl rfl (.yes rfl rfl (q_move rfl)) ?_
        refine gp_quietg 36 rfl rfl rfl rfl rfl rfl (.yes rfl rfl (q_neq rfl rfl)) ?_
        refine gp_quiet 37 rfl rfl rfl rfl rfl rfl (q_pick_f rfl rfl) ?_
        refine gp_end rfl rfl ?_
        refine g_cond rfl ?_ ?_
        · intro hbr
          have hbr := of_decide_eq_true hbr
          (exfalso; first | omega | (simp at hbr; done))
        intro hbr
        have hbr := of_decide_eq_false hbr
        refine g_skip ?_
        refine g_seq ?_
        refine g_seq ?_
        refine g_region ?_
        refine l_assign rfl rfl ?_
        refine l_nil ?_
        refine g_block ?_
        refine g_loopc (X := Int) [(1, _), (5, _), (8, _), (11, _), (12, _), (13, _), (14, _), (15, _), (16, _), (17, _), (18, _), (19, _), (61, _), (62, _), (63, _), (64, _), (65, _), (66, _), (67, _), (68, _), (69, _), (72, _), (73, _), (74, _), (75, _), (76, _), (77, _), (78, _), (79, _), (80, _), (81, _), (82, _), (83, _), (84, _), (85, _), (86, _), (87, _), (88, _), (89, _), (90, _), (91, _), (92, _), (97, _), (98, _), (99, _), (100, _), (101, _), (102, _), (103, _), (104, _), (105, _), (106, _), (107, _), (108, _), (109, _), (110, _), (111, _), (112, _), (113, _), (114, _), (115, _), (116, _), (117, _), (118, _), (119, _), (120, _), (121, _), (122, _), (123, _), (124, _), (125, _), (126, _), (127, _), (128, _), (129, _), (130, _), (131, _), (132, _), (133, _), (134, _), (135, _), (136, _), (137, _), (138, _), (139, _), (140, _), (141, _), (142, _), (143, _), (144, _), (145, _), (146, _), (147, _), (148, _), (149, _), (150, _), (151, _), (152, _), (153, _), (154, _), (155, _), (156, _), (157, _), (158, _), (159, _), (160, _), (161, _), (162, _)] (.cons rfl (.cons rfl (.cons rfl (.cons rfl (.cons rfl (.cons rfl (.cons rfl (.cons rfl (.cons rfl (.cons rfl (.cons rfl (.cons rfl (.cons rfl (.cons rfl (.cons rfl (.cons rfl (.cons rfl (.cons rfl (.cons rfl (.cons rfl (.cons rfl (.cons rfl (.cons rfl (.cons rfl (.cons rfl (.cons rfl (.cons rfl (.cons rfl (.cons rfl (.cons rfl (.cons rfl (.cons rfl (.cons rfl (.cons rfl (.cons rfl (.cons rfl (.cons rfl (.cons rfl (.cons rfl (.cons rfl (.cons rfl (.cons rfl (.cons rfl (.cons rfl (.cons rfl (.cons rfl (.cons rfl (.cons rfl (.cons rfl (.cons rfl (.cons rfl (.cons rfl (.cons rfl (.cons rfl (.cons rfl (.cons rfl (.cons rfl (.cons rfl (.cons rfl (.cons rfl (.cons rfl (.cons rfl (.cons rfl (.cons rfl (.cons rfl (.cons rfl (.cons rfl (.cons rfl (.cons rfl (.cons rfl (.cons rfl (.cons rfl (.cons rfl (.cons rfl (.cons rfl (.cons rfl (.cons rfl (.cons rfl (.cons rfl (.cons rfl (.cons rfl (.cons rfl (.cons rfl (.cons rfl (.cons rfl (.cons rfl (.cons rfl (.cons rfl (.cons rfl (.cons rfl (.cons rfl (.cons rfl (.cons rfl (.cons rfl (.cons rfl (.cons rfl (.cons rfl (.cons rfl (.cons rfl (.cons rfl (.cons rfl (.cons rfl (.cons rfl (.cons rfl (.cons rfl (.cons rfl (.cons rfl (.cons rfl (.nil))))))))))))))))))))))))))))))))))))))))))))))))))))))))))))))))))))))))))))))))))))))))))))))))))))))))))))) (fun j => 0 ≤ j ∧ j ≤ 5) (fun j => (5 - j).toNat) (fun j => [(20, .int .i64 j)]) (0) (⟨by omega, by omega⟩) (.cons rfl .nil) ?_
        rintro j ⟨j0, j1⟩ ihj
        dsimp only [List.cons_append, List.nil_append] at ihj ⊢
        refine g_seq ?_
        refine g_seq ?_
        refine g_region ?_
        refine l_move rfl rfl ?_
        refine l_lss rfl rfl rfl ?_
        refine l_nil ?_
        refine g_cond rfl ?_ ?_
        · intro hbr
          have hbr := of_decide_eq_true hbr
          refine g_skip ?_
          refine g_seq ?_
          refine g_block ?_
          refine g_seq ?_
          refine g_region ?_
          have hwt := hG2.wait hK5 j0 (show j < 5 by omega)
          refine l_move rfl rfl ?_
          refine l_move rfl rfl ?_
          first | refine l_mul rfl rfl rfl (w_i64 (by omega) (by omega)) ?_ | refine l_mulw rfl rfl rfl ?_
          refine l_fronto g ?_
          refine l_frontb bm ?_
          refine l_call rfl Try.call15 rfl (lwait_ok _ _ bm g 16 c W2 hG2.f.wl hc (by omega) (2 * j) (by omega) (by omega) hwt.1) ?_; rintro _ _ ⟨rfl, rfl⟩
          rw [hwt.2]
          have hge := hG2.f.ge j.toNat (by omega)
          have hbd := hG2.bd2 (by omega) (show j.toNat < 5 by omega)
          refine l_move rfl rfl ?_
          refine l_extract rfl rfl rfl ?_
          refine l_extract rfl rfl rfl ?_
          refine l_assign rfl rfl ?_
          refine l_assign rfl rfl ?_
          refine l_nil ?_
          refine g_seq ?_
          refine gp_start mo (by kernel_rfl) (by kernel_rfl) ?_
          refine gp_quiet 0 rfl rfl rfl rfl rfl rfl (q_move rfl) ?_
          refine gp_quiet 1 rfl rfl rfl rfl rfl rfl (q_neq rfl rfl) ?_
          refine gp_quiet 2 rfl rfl rfl rfl rfl rfl (q_move rfl) ?_
          refine gp_split 176 rfl ?_ ?_
          · intro hbr
            have hbr := of_decide_eq_true hbr
            (exfalso; first | omega | (simp at hbr; done))
          intro hbr
          have hg176 := hbr
          have hbr := of_decide_eq_false hbr
          refine gp_quietg 3 rfl rfl rfl rfl rfl rfl (.yes rfl rfl (q_move rfl)) ?_
          refine gp_quietg 4 rfl rfl rfl rfl rfl rfl (.yes rfl rfl (q_move rfl)) ?_
          refine gp_quietg 5 rfl rfl rfl rfl rfl rfl (.yes rfl rfl (q_move rfl)) ?_
          refine gp_quietg 6 rfl rfl rfl rfl rfl rfl (.yes rfl rfl (q_ixs Try.underlying32 Try.sizeOf44 rfl rfl (by omega) (by omega))) ?_
          refine gp_quietg 7 rfl rfl rfl rfl rfl rfl (.yes rfl rfl (q_fieldAddr fa_44_0 rfl)) ?_
          refine gp_quietg 8 rfl rfl rfl rfl rfl rfl (.yes rfl rfl (q_loadc (v := .int .i64 (aQ Q2 j.toNat)) Try.isAgg3 rfl (qv_cell (by rw [hG2.ql]; omega) 0 rfl))) ?_
          refine gp_quietg 9 rfl rfl rfl rfl rfl rfl (.yes rfl rfl (q_move rfl)) ?_
          refine gp_quietg 10 rfl rfl rfl rfl rfl rfl (.yes rfl rfl (q_move rfl)) ?_
          refine gp_quietg 11 rfl rfl rfl rfl rfl rfl (.yes rfl rfl (q_ixs Try.underlying32 Try.sizeOf44 rfl rfl (by omega) (by omega))) ?_
          refine gp_quietg 12 rfl rfl rfl rfl rfl rfl (.yes rfl rfl (q_fieldAddr fa_44_1 rfl)) ?_
          refine gp_quietg 13 rfl rfl rfl rfl rfl rfl (.yes rfl rfl (q_loadc (v := .int .i64 (gQ Q2 j.toNat)) Try.isAgg3 rfl (qv_cell (by rw [hG2.ql]; omega) 1 rfl))) ?_
          first | refine gp_quietg 14 rfl rfl rfl rfl rfl rfl (.yes rfl rfl (q_sub_ rfl rfl (w_i64 (by omega) (by omega)))) ?_ | refine gp_quietg 14 rfl rfl rfl rfl rfl rfl (.yes rfl rfl (q_subw rfl rfl)) ?_
          refine gp_quietg 15 rfl rfl rfl rfl rfl rfl (.yes rfl rfl (q_neq rfl rfl)) ?_
          refine gp_quiet 16 rfl rfl rfl rfl rfl rfl (q_pick_f rfl rfl) ?_
          refine gp_end rfl rfl ?_
          refine g_cond rfl ?_ ?_
          · intro hbr
            have hbr := of_decide_eq_true hbr
            (exfalso; first | omega | (simp at hbr; done))
          intro hbr
          have hbr := of_decide_eq_false hbr
          refine g_skip ?_
          refine g_inBlock ?_
          refine g_region ?_
          refine l_move rfl rfl ?_
          first | refine l_add rfl rfl rfl (w_i64 (by omega) (by omega)) ?_ | refine l_addw rfl rfl rfl ?_
          refine l_assign rfl rfl ?_
          refine l_nil ?_
          exact g_againi (ihj (j + 1) ⟨by omega, by omega⟩ (by omega)) (.cons rfl (.cons rfl (.cons rfl (.cons rfl (.cons rfl (.cons rfl (.cons rfl (.cons rfl (.cons rfl (.cons rfl (.cons rfl (.cons rfl (.cons rfl (.cons rfl (.cons rfl (.cons rfl (.cons rfl (.cons rfl (.cons rfl (.cons rfl (.cons rfl (.cons rfl (.cons rfl (.cons rfl (.cons rfl (.cons rfl (.cons rfl (.cons rfl (.cons rfl (.cons rfl (.cons rfl (.cons rfl (.cons rfl (.cons rfl (.cons rfl (.cons rfl (.cons rfl (.cons rfl (.cons rfl (.cons rfl (.cons rfl (.cons rfl (.cons rfl (.cons rfl (.cons rfl (.cons rfl (.cons rfl (.cons rfl (.cons rfl (.cons rfl (.cons rfl (.cons rfl (.cons rfl (.cons rfl (.cons rfl (.cons rfl (.cons rfl (.cons rfl (.cons rfl (.cons rfl (.cons rfl (.cons rfl (.cons rfl (.cons rfl (.cons rfl (.cons rfl (.cons rfl (.cons rfl (.cons rfl (.cons rfl (.cons rfl (.cons rfl (.cons rfl (.cons rfl (.cons rfl (.cons rfl (.cons rfl (.cons rfl (.cons rfl (.cons rfl (.cons rfl (.cons rfl (.cons rfl (.cons rfl (.cons rfl (.cons rfl (.cons rfl (.cons rfl (.cons rfl (.cons rfl (.cons rfl (.cons rfl (.cons rfl (.cons rfl (.cons rfl (.cons rfl (.cons rfl (.cons rfl (.cons rfl (.cons rfl (.cons rfl (.cons rfl (.cons rfl (.cons rfl (.cons rfl (.cons rfl (.cons rfl (.cons rfl (.cons rfl (.nil))))))))))))))))))))))))))))))))))))))))))))))))))))))))))))))))))))))))))))))))))))))))))))))))))))))))))))))
        intro hbr
        have hbr := of_decide_eq_false hbr
        refine g_exit rfl ?_
        refine g_seq ?_
        refine g_region ?_
        refine l_move rfl rfl ?_
        refine l_move rfl rfl ?_
        refine l_fronto bq ?_
        refine l_fronto gl ?_
        refine l_call rfl Try.call16 rfl (ready_ok _ _ (some ⟨gl, 0, none⟩) KL.length KL2.length lc bq (KL2.set p k2) (by rw [List.length_set]; exact hG.len) (by rw [List.length_set]; exact Nat.le_refl _) hK5 (.inr ⟨_, rfl⟩) Q2 hG2.ql hG2.f.kok (fun j hj => kid_la (by first | exact List.mem_cons_self .. | exact List.mem_cons_of_mem _ (List.mem_cons_self ..) | exact List.mem_cons_of_mem _ (List.mem_cons_of_mem _ (List.mem_cons_self ..)) | exact List.mem_cons_of_mem _ (List.mem_cons_of_mem _ (List.mem_cons_of_mem _ (List.mem_cons_self ..))) | exact List.mem_cons_of_mem _ (List.mem_cons_of_mem _ (List.mem_cons_of_mem _ (List.mem_cons_of_mem _ (List.mem_cons_self ..)))) | exact List.mem_cons_of_mem _ (List.mem_cons_of_mem _ (List.mem_cons_of_mem _ (List.mem_cons_of_mem _ (List.mem_cons_of_mem _ (List.mem_cons_self ..))))) | exact List.mem_cons_of_mem _ (List.mem_cons_of_mem _ (List.mem_cons_of_mem _ (List.mem_cons_of_mem _ (List.mem_cons_of_mem _ (List.mem_cons_of_mem _ (List.mem_cons_self ..)))))) | exact List.mem_cons_of_mem _ (List.mem_cons_of_mem _ (List.mem_cons_of_mem _ (List.mem_cons_of_mem _ (List.mem_cons_of_mem _ (List.mem_cons_of_mem _ (List.mem_cons_of_mem _ (List.mem_cons_self ..))))))) | exact List.mem_cons_of_mem _ (List.mem_cons_of_mem _ (List.mem_cons_of_mem _ (List.mem_cons_of_mem _ (List.mem_cons_of_mem _ (List.mem_cons_of_mem _ (List.mem_cons_of_mem _ (List.mem_cons_of_mem _ (List.mem_cons_self ..)))))))) | exact List.mem_cons_of_mem _ (List.mem_cons_of_mem _ (List.mem_cons_of_mem _ (List.mem_cons_of_mem _ (List.mem_cons_of_mem _ (List.mem_cons_of_mem _ (List.mem_cons_of_mem _ (List.mem_cons_of_mem _ (List.mem_cons_of_mem _ (List.mem_cons_self ..))))))))) | exact List.mem_cons_of_mem _ (List.mem_cons_of_mem _ (List.mem_cons_of_mem _ (List.mem_cons_of_mem _ (List.mem_cons_of_mem _ (List.mem_cons_of_mem _ (List.mem_cons_of_mem _ (List.mem_cons_of_mem _ (List.mem_cons_of_mem _ (List.mem_cons_of_mem _ (List.mem_cons_self ..)))))))))) | exact List.mem_cons_of_mem _ (List.mem_cons_of_mem _ (List.mem_cons_of_mem _ (List.mem_cons_of_mem _ (List.mem_cons_of_mem _ (List.mem_cons_of_mem _ (List.mem_cons_of_mem _ (List.mem_cons_of_mem _ (List.mem_cons_of_mem _ (List.mem_cons_of_mem _ (List.mem_cons_of_mem _ (List.mem_cons_self ..)))))))))))) hj (hG2.kid j hj) (hKs j hj)) (fun hb => hG2.ready hb)) ?_; rintro _ F9 ⟨rfl, hF9⟩; rw [hF9]; clear hF9 F9
        refine l_not rfl rfl ?_
        refine l_nil ?_
        refine g_cond_f rfl ?_
        refine g_skip ?_
        refine g_inBlock ?_
        refine g_region ?_
        refine l_move rfl rfl ?_
        first | refine l_add rfl rfl rfl (w_i64 (by omega) (by omega)) ?_ | refine l_addw rfl rfl rfl ?_
        refine l_assign rfl rfl ?_
        refine l_nil ?_
        refine g_heap (F' := Blk bm (.cells [Value.slice (some ⟨g, 0, none⟩) 16 c].toArray 81 (0, 0)) :: Own 51 1 (.slice (some ⟨g, 0, none⟩) 16 c) 16 (ints .u32 W2) :: Own 31 5 (.slice (some ⟨gl, 0, none⟩) ((KL2.set p k2)).length lc) ((KL2.set p k2)).length (knR (KL2.set p k2)) :: Own 44 2 (.slice (some ⟨bq, 0, none⟩) 5 5) 5 (qR Q2) :: BigF KL.length (fun j => Blk (kat (KL2.set p k2) j).b (.cells [Value.slice (kat (KL2.set p k2) j).al (kat (KL2.set p k2) j).L.length (kat (KL2.set p k2) j).cl, .int .i64 (kat (KL2.set p k2) j).h, .bool (kat (KL2.set p k2) j).q, .slice (kat (KL2.set p k2) j).tt (kat (KL2.set p k2) j).T.length (kat (KL2.set p k2) j).ct].toArray 84 (0, 0))) :: BigF KL.length (fun j => Own 51 1 (.slice (kat (KL2.set p k2) j).tt (kat (KL2.set p k2) j).T.length (kat (KL2.set p k2) j).ct) (kat (KL2.set p k2) j).T.length (ints .u32 (kat (KL2.set p k2) j).T)) :: BigF KL.length (fun j => Own 3 1 (.slice (kat KL j).al (kat KL j).L.length (kat KL j).cl) (kat KL j).L.length (ints .i64 (kat KL j).L)) :: BigF KL.length (fun j => Own 3 1 (.slice (kat KL j).la (kat KL j).L.length (kat KL j).lc) (kat KL j).L.length (ints .i64 (kat KL j).L)) :: F) (fun w hw => ?_) ?_
        · rw [List.length_set]
          exact SPI.holds (F := BigF KL.length (fun j => Blk (kat (KL2.set p k2) j).b (.cells [Value.slice (kat (KL2.set p k2) j).al (kat (KL2.set p k2) j).L.length (kat (KL2.set p k2) j).cl, .int .i64 (kat (KL2.set p k2) j).h, .bool (kat (KL2.set p k2) j).q, .slice (kat (KL2.set p k2) j).tt (kat (KL2.set p k2) j).T.length (kat (KL2.set p k2) j).ct].toArray 84 (0, 0))) :: BigF KL.length (fun j => Own 51 1 (.slice (kat (KL2.set p k2) j).tt (kat (KL2.set p k2) j).T.length (kat (KL2.set p k2) j).ct) (kat (KL2.set p k2) j).T.length (ints .u32 (kat (KL2.set p k2) j).T)) :: Blk bm (.cells [Value.slice (some ⟨g, 0, none⟩) 16 c].toArray 81 (0, 0)) :: Own 51 1 (.slice (some ⟨g, 0, none⟩) 16 c) 16 (ints .u32 W2) :: Own 31 5 (.slice (some ⟨gl, 0, none⟩) KL2.length lc) KL2.length (knR (KL2.set p k2)) :: Own 44 2 (.slice (some ⟨bq, 0, none⟩) 5 5) 5 (qR Q2) :: BigF KL.length (fun j => Own 3 1 (.slice (kat KL j).al (kat KL j).L.length (kat KL j).cl) (kat KL j).L.length (ints .i64 (kat KL j).L)) :: BigF KL.length (fun j => Own 3 1 (.slice (kat KL j).la (kat KL j).L.length (kat KL j).lc) (kat KL j).L.length (ints .i64 (kat KL j).L)) :: F) (unfocus2 (C1 := fun j => Blk (kat (KL2.set p k2) j).b (.cells [Value.slice (kat (KL2.set p k2) j).al (kat (KL2.set p k2) j).L.length (kat (KL2.set p k2) j).cl, .int .i64 (kat (KL2.set p k2) j).h, .bool (kat (KL2.set p k2) j).q, .slice (kat (KL2.set p k2) j).tt (kat (KL2.set p k2) j).T.length (kat (KL2.set p k2) j).ct].toArray 84 (0, 0))) (C2 := fun j => Own 51 1 (.slice (kat (KL2.set p k2) j).tt (kat (KL2.set p k2) j).T.length (kat (KL2.set p k2) j).ct) (kat (KL2.set p k2) j).T.length (ints .u32 (kat (KL2.set p k2) j).T)) (SPI.holds (F' := Blk k2.b (.cells [Value.slice k2.al k2.L.length k2.cl, .int .i64 k2.h, .bool k2.q, .slice k2.tt k2.T.length k2.ct].toArray 84 (0, 0)) :: Own 51 1 (.slice k2.tt k2.T.length k2.ct) k2.T.length (ints .u32 k2.T) :: BigBut KL.length p (fun j => Blk (kat KL2 j).b (.cells [Value.slice (kat KL2 j).al (kat KL2 j).L.length (kat KL2 j).cl, .int .i64 (kat KL2 j).h, .bool (kat KL2 j).q, .slice (kat KL2 j).tt (kat KL2 j).T.length (kat KL2 j).ct].toArray 84 (0, 0))) :: BigBut KL.length p (fun j => Own 51 1 (.slice (kat KL2 j).tt (kat KL2 j).T.length (kat KL2 j).ct) (kat KL2 j).T.length (ints .u32 (kat KL2 j).T)) :: Blk bm (.cells [Value.slice (some ⟨g, 0, none⟩) 16 c].toArray 81 (0, 0)) :: Own 51 1 (.slice (some ⟨g, 0, none⟩) 16 c) 16 (ints .u32 W2) :: Own 31 5 (.slice (some ⟨gl, 0, none⟩) KL2.length lc) KL2.length (knR (KL2.set p k2)) :: Own 44 2 (.slice (some ⟨bq, 0, none⟩) 5 5) 5 (qR Q2) :: BigF KL.length (fun j => Own 3 1 (.slice (kat KL j).al (kat KL j).L.length (kat KL j).cl) (kat KL j).L.length (ints .i64 (kat KL j).L)) :: BigF KL.length (fun j => Own 3 1 (.slice (kat KL j).la (kat KL j).L.length (kat KL j).lc) (kat KL j).L.length (ints .i64 (kat KL j).L)) :: F) hw) (by simp only [kat_set (by rw [hG.len]; exact hp), if_pos]) (fun k hk hne => by simp only [kat_set (by rw [hG.len]; exact hp), if_neg hne]) (by simp only [kat_set (by rw [hG.len]; exact hp), if_pos]) (fun k hk hne => by simp only [kat_set (by rw [hG.len]; exact hp), if_neg hne]))
        exact g_againi (ih (i + 1, KL2.set p k2, Q2, W2) ⟨by simp only; omega, by simp only; omega, hG2⟩ (by simp only; omega)) (.cons rfl (.cons rfl (.cons rfl (.cons rfl (.cons rfl (.nil))))))
      intro hbr
      refine g_skip ?_
      refine g_seq ?_
      refine g_seq ?_
      refine gp_start mo (by kernel_rfl) (by kernel_rfl) ?_
      (first | have hwl := hok2.2.2.2 hbr | skip)
      refine gp_quiet 0 rfl rfl rfl rfl rfl rfl (q_move rfl) ?_
      refine gp_quiet 1 rfl rfl rfl rfl rfl rfl (q_not rfl) ?_
      refine gp_quiet 2 rfl rfl rfl rfl rfl rfl (q_move rfl) ?_
      refine gp_quietg 3 rfl rfl rfl rfl rfl rfl (.yes rfl rfl (q_move rfl)) ?_
      refine gp_quietg 4 rfl rfl rfl rfl rfl rfl (.yes rfl rfl (q_move rfl)) ?_
      refine gp_quietg 5 rfl rfl rfl rfl rfl rfl (.yes rfl rfl (q_nilCheck rfl)) ?_
      refine gp_quietg 6 rfl rfl rfl rfl rfl rfl (.yes rfl rfl (q_fieldAddr fa_31_2 rfl)) ?_
      refine gp_quietg 7 rfl rfl rfl rfl rfl rfl (.yes rfl rfl (q_loadc (v := .int .i64 k2.h) Try.isAgg3 rfl (kn_cell (by rw [List.length_set]; exact hpK) 2 (by rw [kat_set hpK, if_pos rfl]; rfl)))) ?_
      refine gp_quietg 8 rfl rfl rfl rfl rfl rfl (.yes rfl rfl (q_move rfl)) ?_
      refine gp_quietg 9 rfl rfl rfl rfl rfl rfl (.yes rfl rfl (q_nilCheck rfl)) ?_
      refine gp_quietg 10 rfl rfl rfl rfl rfl rfl (.yes rfl rfl (q_fieldAddr fa_31_1 rfl)) ?_
      refine gp_quietg 11 rfl rfl rfl rfl rfl rfl (.yes rfl rfl (q_loadc (v := .slice k2.la k2.L.length k2.lc) Try.isAgg23 rfl (kn_cell (by rw [List.length_set]; exact hpK) 1 (by rw [kat_set hpK, if_pos rfl]; rfl)))) ?_
      refine gp_quietg 12 rfl rfl rfl rfl rfl rfl (.yes rfl rfl (q_len Try.underlying23 rfl)) ?_
      refine gp_quietg 13 rfl rfl rfl rfl rfl rfl (.yes rfl rfl (q_eql rfl rfl)) ?_
      refine gp_quietg 14 rfl rfl rfl rfl rfl rfl (.yes rfl rfl (q_neqb Try.underlying4 rfl rfl)) ?_
      refine gp_quiet 15 rfl rfl rfl rfl rfl rfl (q_pick_f rfl rfl) ?_
      refine gp_quiet 16 rfl rfl rfl rfl rfl rfl (q_move rfl) ?_
      refine gp_split 141 rfl ?_ ?_
      · intro hbr
        first | (exfalso; simp at hbr; done) | (exfalso; simp at hbr; omega) | (exfalso; first | omega | (simp at hbr; done))
      intro hbr
      have hg141 := hbr
      refine gp_quietg 17 rfl rfl rfl rfl rfl rfl (.yes rfl rfl (q_move rfl)) ?_
      refine gp_quietg 18 rfl rfl rfl rfl rfl rfl (.yes rfl rfl (q_move rfl)) ?_
      refine gp_quietg 19 rfl rfl rfl rfl rfl rfl (.yes rfl rfl (q_nilCheck rfl)) ?_
      refine gp_quietg 20 rfl rfl rfl rfl rfl rfl (.yes rfl rfl (q_fieldAddr fa_31_2 rfl)) ?_
      refine gp_quietg 21 rfl rfl rfl rfl rfl rfl (.yes rfl rfl (q_loadc (v := .int .i64 k2.h) Try.isAgg3 rfl (kn_cell (by rw [List.length_set]; exact hpK) 2 (by rw [kat_set hpK, if_pos rfl]; rfl)))) ?_
      refine gp_quietg 22 rfl rfl rfl rfl rfl rfl (.yes rfl rfl (q_neq rfl rfl)) ?_
      refine gp_quiet 23 rfl rfl rfl rfl rfl rfl (q_pick_f rfl rfl) ?_
      refine gp_quiet 24 rfl rfl rfl rfl rfl rfl (q_move rfl) ?_
      refine gp_split 149 rfl ?_ ?_
      · intro hbr
        have hbr := of_decide_eq_true hbr
        (exfalso; first | omega | (simp at hbr; done))
      intro hbr
      have hg149 := hbr
      have hbr := of_decide_eq_false hbr
      refine gp_quietg 25 rfl rfl rfl rfl rfl rfl (.yes rfl rfl (q_move rfl)) ?_
      refine gp_quietg 26 rfl rfl rfl rfl rfl rfl (.yes rfl rfl (q_move rfl)) ?_
      refine gp_quietg 27 rfl rfl rfl rfl rfl rfl (.yes rfl rfl (q_nilCheck rfl)) ?_
      refine gp_quietg 28 rfl rfl rfl rfl rfl rfl (.yes rfl rfl (q_fieldAddr fa_31_3 rfl)) ?_
      refine gp_quietg 29 rfl rfl rfl rfl rfl rfl (.yes rfl rfl (q_loadc (v := .bool k2.q) Try.isAgg4 rfl (kn_cell (by rw [List.length_set]; exact hpK) 3 (by rw [kat_set hpK, if_pos rfl]; rfl)))) ?_
      refine gp_quietg 30 rfl rfl rfl rfl rfl rfl (.yes rfl rfl (q_neqb Try.underlying4 rfl rfl)) ?_
      refine gp_quiet 31 rfl rfl rfl rfl rfl rfl (q_pick_f rfl rfl) ?_
      refine gp_quiet 32 rfl rfl rfl rfl rfl rfl (q_move rfl) ?_
      refine gp_split 157 rfl ?_ ?_
      · intro hbr
        first | (exfalso; simp at hbr; done) | (exfalso; simp at hbr; omega) | (exfalso; first | omega | (simp at hbr; done))
      intro hbr
      have hg157 := hbr
      refine gp_quietg 33 rfl rfl rfl rfl rfl rfl (.yes rfl rfl (q_move rfl)) ?_
      refine gp_quietg 34 rfl rfl rfl rfl rfl rfl (.yes rfl rfl (q_len Try.underlying38 rfl)) ?_
      refine gp_quietg 35 rfl rfl rfl rfl rfl rfl (.yes rfl rfl (q_move rfl)) ?_
      refine gp_quietg 36 rfl rfl rfl rfl rfl rfl (.yes rfl rfl (q_neq rfl rfl)) ?_
      refine gp_quiet 37 rfl rfl rfl rfl rfl rfl (q_pick_f rfl rfl) ?_
      refine gp_end rfl rfl ?_
      refine g_cond rfl ?_ ?_
      · intro hbr
        have hbr := of_decide_eq_true hbr
        (exfalso; first | omega | (simp at hbr; done))
      intro hbr
      have hbr := of_decide_eq_false hbr
      refine g_skip ?_
      refine g_seq ?_
      refine g_seq ?_
      refine g_region ?_
      refine l_assign rfl rfl ?_
      refine l_nil ?_
      refine g_block ?_
      refine g_loopc (X := Int) [(1, _), (5, _), (8, _), (11, _), (12, _), (13, _), (14, _), (15, _), (16, _), (17, _), (18, _), (19, _), (61, _), (62, _), (63, _), (64, _), (65, _), (66, _), (67, _), (68, _), (69, _), (72, _), (73, _), (74, _), (75, _), (76, _), (77, _), (78, _), (79, _), (80, _), (81, _), (82, _), (83, _), (84, _), (85, _), (86, _), (87, _), (88, _), (89, _), (90, _), (91, _), (92, _), (97, _), (98, _), (99, _), (100, _), (101, _), (102, _), (103, _), (104, _), (105, _), (106, _), (107, _), (108, _), (109, _), (110, _), (111, _), (112, _), (113, _), (114, _), (115, _), (116, _), (117, _), (118, _), (119, _), (120, _), (121, _), (122, _), (125, _), (126, _), (127, _), (128, _), (129, _), (130, _), (131, _), (132, _), (133, _), (134, _), (135, _), (136, _), (137, _), (138, _), (139, _), (140, _), (141, _), (142, _), (143, _), (144, _), (145, _), (146, _), (147, _), (148, _), (149, _), (150, _), (151, _), (152, _), (153, _), (154, _), (155, _), (156, _), (157, _), (158, _), (159, _), (160, _), (161, _), (162, _)] (.cons rfl (.cons rfl (.cons rfl (.cons rfl (.cons rfl (.cons rfl (.cons rfl (.cons rfl (.cons rfl (.cons rfl (.cons rfl (.cons rfl (.cons rfl (.cons rfl (.cons rfl (.cons rfl (.cons rfl (.cons rfl (.cons rfl (.cons rfl (.cons rfl (.cons rfl (.cons rfl (.cons rfl (.cons rfl (.cons rfl (.cons rfl (.cons rfl (.cons rfl (.cons rfl (.cons rfl (.cons rfl (.cons rfl (.cons rfl (.cons rfl (.cons rfl (.cons rfl (.cons rfl (.cons rfl (.cons rfl (.cons rfl (.cons rfl (.cons rfl (.cons rfl (.cons rfl (.cons rfl (.cons rfl (.cons rfl (.cons rfl (.cons rfl (.cons rfl (.cons rfl (.cons rfl (.cons rfl (.cons rfl (.cons rfl (.cons rfl (.cons rfl (.cons rfl (.cons rfl (.cons rfl (.cons rfl (.cons rfl (.cons rfl (.cons rfl (.cons rfl (.cons rfl (.cons rfl (.cons rfl (.cons rfl (.cons rfl (.cons rfl (.cons rfl (.cons rfl (.cons rfl (.cons rfl (.cons rfl (.cons rfl (.cons rfl (.cons rfl (.cons rfl (.cons rfl (.cons rfl (.cons rfl (.cons rfl (.cons rfl (.cons rfl (.cons rfl (.cons rfl (.cons rfl (.cons rfl (.cons rfl (.cons rfl (.cons rfl (.cons rfl (.cons rfl (.cons rfl (.cons rfl (.cons rfl (.cons rfl (.cons rfl (.cons rfl (.cons rfl (.cons rfl (.cons rfl (.cons rfl (.nil))))))))))))))))))))))))))))))))))))))))))))))))))))))))))))))))))))))))))))))))))))))))))))))))))))))))))) (fun j => 0 ≤ j ∧ j ≤ 5) (fun j => (5 - j).toNat) (fun j => [(20, .int .i64 j)]) (0) (⟨by omega, by omega⟩) (.cons rfl .nil) ?_
      rintro j ⟨j0, j1⟩ ihj
      dsimp only [List.cons_append, List.nil_append] at ihj ⊢
      refine g_seq ?_
      refine g_seq ?_
      refine g_region ?_
      refine l_move rfl rfl ?_
      refine l_lss rfl rfl rfl ?_
      refine l_nil ?_
      refine g_cond rfl ?_ ?_
      · intro hbr
        have hbr := of_decide_eq_true hbr
        refine g_skip ?_
        refine g_seq ?_
        refine g_block ?_
        refine g_seq ?_
        refine g_region ?_
        have hwt := hG2.wait hK5 j0 (show j < 5 by omega)
        refine l_move rfl rfl ?_
        refine l_move rfl rfl ?_
        first | refine l_mul rfl rfl rfl (w_i64 (by omega) (by omega)) ?_ | refine l_mulw rfl rfl rfl ?_
        refine l_fronto g ?_
        refine l_frontb bm ?_
        refine l_call rfl Try.call15 rfl (lwait_ok _ _ bm g 16 c W2 hG2.f.wl hc (by omega) (2 * j) (by omega) (by omega) hwt.1) ?_; rintro _ _ ⟨rfl, rfl⟩
        rw [hwt.2]
        have hge := hG2.f.ge j.toNat (by omega)
        have hbd := hG2.bd2 (by omega) (show j.toNat < 5 by omega)
        refine l_move rfl rfl ?_
        refine l_extract rfl rfl rfl ?_
        refine l_extract rfl rfl rfl ?_
        refine l_assign rfl rfl ?_
        refine l_assign rfl rfl ?_
        refine l_nil ?_
        refine g_seq ?_
        refine gp_start mo (by kernel_rfl) (by kernel_rfl) ?_
        refine gp_quiet 0 rfl rfl rfl rfl rfl rfl (q_move rfl) ?_
        refine gp_quiet 1 rfl rfl rfl rfl rfl rfl (q_neq rfl rfl) ?_
        refine gp_quiet 2 rfl rfl rfl rfl rfl rfl (q_move rfl) ?_
        refine gp_split 176 rfl ?_ ?_
        · intro hbr
          have hbr := of_decide_eq_true hbr
          (exfalso; first | omega | (simp at hbr; done))
        intro hbr
        have hg176 := hbr
        have hbr := of_decide_eq_false hbr
        refine gp_quietg 3 rfl rfl rfl rfl rfl rfl (.yes rfl rfl (q_move rfl)) ?_
        refine gp_quietg 4 rfl rfl rfl rfl rfl rfl (.yes rfl rfl (q_move rfl)) ?_
        refine gp_quietg 5 rfl rfl rfl rfl rfl rfl (.yes rfl rfl (q_move rfl)) ?_
        refine gp_quietg 6 rfl rfl rfl rfl rfl rfl (.yes rfl rfl (q_ixs Try.underlying32 Try.sizeOf44 rfl rfl (by omega) (by omega))) ?_
        refine gp_quietg 7 rfl rfl rfl rfl rfl rfl (.yes rfl rfl (q_fieldAddr fa_44_0 rfl)) ?_
        refine gp_quietg 8 rfl rfl rfl rfl rfl rfl (.yes rfl rfl (q_loadc (v := .int .i64 (aQ Q2 j.toNat)) Try.isAgg3 rfl (qv_cell (by rw [hG2.ql]; omega) 0 rfl))) ?_
        refine gp_quietg 9 rfl rfl rfl rfl rfl rfl (.yes rfl rfl (q_move rfl)) ?_
        refine gp_quietg 10 rfl rfl rfl rfl rfl rfl (.yes rfl rfl (q_move rfl)) ?_
        refine gp_quietg 11 rfl rfl rfl rfl rfl rfl (.yes rfl rfl (q_ixs Try.underlying32 Try.sizeOf44 rfl rfl (by omega) (by omega))) ?_
        refine gp_quietg 12 rfl rfl rfl rfl rfl rfl (.yes rfl rfl (q_fieldAddr fa_44_1 rfl)) ?_
        refine gp_quietg 13 rfl rfl rfl rfl rfl rfl (.yes rfl rfl (q_loadc (v := .int .i64 (gQ Q2 j.toNat)) Try.isAgg3 rfl (qv_cell (by rw [hG2.ql]; omega) 1 rfl))) ?_
        first | refine gp_quietg 14 rfl rfl rfl rfl rfl rfl (.yes rfl rfl (q_sub_ rfl rfl (w_i64 (by omega) (by omega)))) ?_ | refine gp_quietg 14 rfl rfl rfl rfl rfl rfl (.yes rfl rfl (q_subw rfl rfl)) ?_
        refine gp_quietg 15 rfl rfl rfl rfl rfl rfl (.yes rfl rfl (q_neq rfl rfl)) ?_
        refine gp_quiet 16 rfl rfl rfl rfl rfl rfl (q_pick_f rfl rfl) ?_
        refine gp_end rfl rfl ?_
        refine g_cond rfl ?_ ?_
        · intro hbr
          have hbr := of_decide_eq_true hbr
          (exfalso; first | omega | (simp at hbr; done))
        intro hbr
        have hbr := of_decide_eq_false hbr
        refine g_skip ?_
        refine g_inBlock ?_
        refine g_region ?_
        refine l_move rfl rfl ?_
        first | refine l_add rfl rfl rfl (w_i64 (by omega) (by omega)) ?_ | refine l_addw rfl rfl rfl ?_
        refine l_assign rfl rfl ?_
        refine l_nil ?_
        exact g_againi (ihj (j + 1) ⟨by omega, by omega⟩ (by omega)) (.cons rfl (.cons rfl (.cons rfl (.cons rfl (.cons rfl (.cons rfl (.cons rfl (.cons rfl (.cons rfl (.cons rfl (.cons rfl (.cons rfl (.cons rfl (.cons rfl (.cons rfl (.cons rfl (.cons rfl (.cons rfl (.cons rfl (.cons rfl (.cons rfl (.cons rfl (.cons rfl (.cons rfl (.cons rfl (.cons rfl (.cons rfl (.cons rfl (.cons rfl (.cons rfl (.cons rfl (.cons rfl (.cons rfl (.cons rfl (.cons rfl (.cons rfl (.cons rfl (.cons rfl (.cons rfl (.cons rfl (.cons rfl (.cons rfl (.cons rfl (.cons rfl (.cons rfl (.cons rfl (.cons rfl (.cons rfl (.cons rfl (.cons rfl (.cons rfl (.cons rfl (.cons rfl (.cons rfl (.cons rfl (.cons rfl (.cons rfl (.cons rfl (.cons rfl (.cons rfl (.cons rfl (.cons rfl (.cons rfl (.cons rfl (.cons rfl (.cons rfl (.cons rfl (.cons rfl (.cons rfl (.cons rfl (.cons rfl (.cons rfl (.cons rfl (.cons rfl (.cons rfl (.cons rfl (.cons rfl (.cons rfl (.cons rfl (.cons rfl (.cons rfl (.cons rfl (.cons rfl (.cons rfl (.cons rfl (.cons rfl (.cons rfl (.cons rfl (.cons rfl (.cons rfl (.cons rfl (.cons rfl (.cons rfl (.cons rfl (.cons rfl (.cons rfl (.cons rfl (.cons rfl (.cons rfl (.cons rfl (.cons rfl (.cons rfl (.cons rfl (.cons rfl (.cons rfl (.cons rfl (.cons rfl (.nil))))))))))))))))))))))))))))))))))))))))))))))))))))))))))))))))))))))))))))))))))))))))))))))))))))))))))))
      intro hbr
      have hbr := of_decide_eq_false hbr
      refine g_exit rfl ?_
      refine g_seq ?_
      refine g_region ?_
      refine l_move rfl rfl ?_
      refine l_move rfl rfl ?_
      refine l_fronto bq ?_
      refine l_fronto gl ?_
      refine l_call rfl Try.call16 rfl (ready_ok _ _ (some ⟨gl, 0, none⟩) KL.length KL2.length lc bq (KL2.set p k2) (by rw [List.length_set]; exact hG.len) (by rw [List.length_set]; exact Nat.le_refl _) hK5 (.inr ⟨_, rfl⟩) Q2 hG2.ql hG2.f.kok (fun j hj => kid_la (by first | exact List.mem_cons_self .. | exact List.mem_cons_of_mem _ (List.mem_cons_self ..) | exact List.mem_cons_of_mem _ (List.mem_cons_of_mem _ (List.mem_cons_self ..)) | exact List.mem_cons_of_mem _ (List.mem_cons_of_mem _ (List.mem_cons_of_mem _ (List.mem_cons_self ..))) | exact List.mem_cons_of_mem _ (List.mem_cons_of_mem _ (List.mem_cons_of_mem _ (List.mem_cons_of_mem _ (List.mem_cons_self ..)))) | exact List.mem_cons_of_mem _ (List.mem_cons_of_mem _ (List.mem_cons_of_mem _ (List.mem_cons_of_mem _ (List.mem_cons_of_mem _ (List.mem_cons_self ..))))) | exact List.mem_cons_of_mem _ (List.mem_cons_of_mem _ (List.mem_cons_of_mem _ (List.mem_cons_of_mem _ (List.mem_cons_of_mem _ (List.mem_cons_of_mem _ (List.mem_cons_self ..)))))) | exact List.mem_cons_of_mem _ (List.mem_cons_of_mem _ (List.mem_cons_of_mem _ (List.mem_cons_of_mem _ (List.mem_cons_of_mem _ (List.mem_cons_of_mem _ (List.mem_cons_of_mem _ (List.mem_cons_self ..))))))) | exact List.mem_cons_of_mem _ (List.mem_cons_of_mem _ (List.mem_cons_of_mem _ (List.mem_cons_of_mem _ (List.mem_cons_of_mem _ (List.mem_cons_of_mem _ (List.mem_cons_of_mem _ (List.mem_cons_of_mem _ (List.mem_cons_self ..)))))))) | exact List.mem_cons_of_mem _ (List.mem_cons_of_mem _ (List.mem_cons_of_mem _ (List.mem_cons_of_mem _ (List.mem_cons_of_mem _ (List.mem_cons_of_mem _ (List.mem_cons_of_mem _ (List.mem_cons_of_mem _ (List.mem_cons_of_mem _ (List.mem_cons_self ..))))))))) | exact List.mem_cons_of_mem _ (List.mem_cons_of_mem _ (List.mem_cons_of_mem _ (List.mem_cons_of_mem _ (List.mem_cons_of_mem _ (List.mem_cons_of_mem _ (List.mem_cons_of_mem _ (List.mem_cons_of_mem _ (List.mem_cons_of_mem _ (List.mem_cons_of_mem _ (List.mem_cons_self ..)))))))))) | exact List.mem_cons_of_mem _ (List.mem_cons_of_mem _ (List.mem_cons_of_mem _ (List.mem_cons_of_mem _ (List.mem_cons_of_mem _ (List.mem_cons_of_mem _ (List.mem_cons_of_mem _ (List.mem_cons_of_mem _ (List.mem_cons_of_mem _ (List.mem_cons_of_mem _ (List.mem_cons_of_mem _ (List.mem_cons_self ..)))))))))))) hj (hG2.kid j hj) (hKs j hj)) (fun hb => hG2.ready hb)) ?_; rintro _ F9 ⟨rfl, hF9⟩; rw [hF9]; clear hF9 F9
      refine l_not rfl rfl ?_
      refine l_nil ?_
      refine g_cond_f rfl ?_
      refine g_skip ?_
      refine g_inBlock ?_
      refine g_region ?_
      refine l_move rfl rfl ?_
      first | refine l_add rfl rfl rfl (w_i64 (by omega) (by omega)) ?_ | refine l_addw rfl rfl rfl ?_
      refine l_assign rfl rfl ?_
      refine l_nil ?_
      refine g_heap (F' := Blk bm (.cells [Value.slice (some ⟨g, 0, none⟩) 16 c].toArray 81 (0, 0)) :: Own 51 1 (.slice (some ⟨g, 0, none⟩) 16 c) 16 (ints .u32 W2) :: Own 31 5 (.slice (some ⟨gl, 0, none⟩) ((KL2.set p k2)).length lc) ((KL2.set p k2)).length (knR (KL2.set p k2)) :: Own 44 2 (.slice (some ⟨bq, 0, none⟩) 5 5) 5 (qR Q2) :: BigF KL.length (fun j => Blk (kat (KL2.set p k2) j).b (.cells [Value.slice (kat (KL2.set p k2) j).al (kat (KL2.set p k2) j).L.length (kat (KL2.set p k2) j).cl, .int .i64 (kat (KL2.set p k2) j).h, .bool (kat (KL2.set p k2) j).q, .slice (kat (KL2.set p k2) j).tt (kat (KL2.set p k2) j).T.length (kat (KL2.set p k2) j).ct].toArray 84 (0, 0))) :: BigF KL.length (fun j => Own 51 1 (.slice (kat (KL2.set p k2) j).tt (kat (KL2.set p k2) j).T.length (kat (KL2.set p k2) j).ct) (kat (KL2.set p k2) j).T.length (ints .u32 (kat (KL2.set p k2) j).T)) :: BigF KL.length (fun j => Own 3 1 (.slice (kat KL j).al (kat KL j).L.length (kat KL j).cl) (kat KL j).L.length (ints .i64 (kat KL j).L)) :: BigF KL.length (fun j => Own 3 1 (.slice (kat KL j).la (kat KL j).L.length (kat KL j).lc) (kat KL j).L.length (ints .i64 (kat KL j).L)) :: F) (fun w hw => ?_) ?_
      · rw [List.length_set]
        exact SPI.holds (F := BigF KL.length (fun j => Blk (kat (KL2.set p k2) j).b (.cells [Value.slice (kat (KL2.set p k2) j).al (kat (KL2.set p k2) j).L.length (kat (KL2.set p k2) j).cl, .int .i64 (kat (KL2.set p k2) j).h, .bool (kat (KL2.set p k2) j).q, .slice (kat (KL2.set p k2) j).tt (kat (KL2.set p k2) j).T.length (kat (KL2.set p k2) j).ct].toArray 84 (0, 0))) :: BigF KL.length (fun j => Own 51 1 (.slice (kat (KL2.set p k2) j).tt (kat (KL2.set p k2) j).T.length (kat (KL2.set p k2) j).ct) (kat (KL2.set p k2) j).T.length (ints .u32 (kat (KL2.set p k2) j).T)) :: Blk bm (.cells [Value.slice (some ⟨g, 0, none⟩) 16 c].toArray 81 (0, 0)) :: Own 51 1 (.slice (some ⟨g, 0, none⟩) 16 c) 16 (ints .u32 W2) :: Own 31 5 (.slice (some ⟨gl, 0, none⟩) KL2.length lc) KL2.length (knR (KL2.set p k2)) :: Own 44 2 (.slice (some ⟨bq, 0, none⟩) 5 5) 5 (qR Q2) :: BigF KL.length (fun j => Own 3 1 (.slice (kat KL j).al (kat KL j).L.length (kat KL j).cl) (kat KL j).L.length (ints .i64 (kat KL j).L)) :: BigF KL.length (fun j => Own 3 1 (.slice (kat KL j).la (kat KL j).L.length (kat KL j).lc) (kat KL j).L.length (ints .i64 (kat KL j).L)) :: F) (unfocus2 (C1 := fun j => Blk (kat (KL2.set p k2) j).b (.cells [Value.slice (kat (KL2.set p k2) j).al (kat (KL2.set p k2) j).L.length (kat (KL2.set p k2) j).cl, .int .i64 (kat (KL2.set p k2) j).h, .bool (kat (KL2.set p k2) j).q, .slice (kat (KL2.set p k2) j).tt (kat (KL2.set p k2) j).T.length (kat (KL2.set p k2) j).ct].toArray 84 (0, 0))) (C2 := fun j => Own 51 1 (.slice (kat (KL2.set p k2) j).tt (kat (KL2.set p k2) j).T.length (kat (KL2.set p k2) j).ct) (kat (KL2.set p k2) j).T.length (ints .u32 (kat (KL2.set p k2) j).T)) (SPI.holds (F' := Blk k2.b (.cells [Value.slice k2.al k2.L.length k2.cl, .int .i64 k2.h, .bool k2.q, .slice k2.tt k2.T.length k2.ct].toArray 84 (0, 0)) :: Own 51 1 (.slice k2.tt k2.T.length k2.ct) k2.T.length (ints .u32 k2.T) :: BigBut KL.length p (fun j => Blk (kat KL2 j).b (.cells [Value.slice (kat KL2 j).al (kat KL2 j).L.length (kat KL2 j).cl, .int .i64 (kat KL2 j).h, .bool (kat KL2 j).q, .slice (kat KL2 j).tt (kat KL2 j).T.length (kat KL2 j).ct].toArray 84 (0, 0))) :: BigBut KL.length p (fun j => Own 51 1 (.slice (kat KL2 j).tt (kat KL2 j).T.length (kat KL2 j).ct) (kat KL2 j).T.length (ints .u32 (kat KL2 j).T)) :: Blk bm (.cells [Value.slice (some ⟨g, 0, none⟩) 16 c].toArray 81 (0, 0)) :: Own 51 1 (.slice (some ⟨g, 0, none⟩) 16 c) 16 (ints .u32 W2) :: Own 31 5 (.slice (some ⟨gl, 0, none⟩) KL2.length lc) KL2.length (knR (KL2.set p k2)) :: Own 44 2 (.slice (some ⟨bq, 0, none⟩) 5 5) 5 (qR Q2) :: BigF KL.length (fun j => Own 3 1 (.slice (kat KL j).al (kat KL j).L.length (kat KL j).cl) (kat KL j).L.length (ints .i64 (kat KL j).L)) :: BigF KL.length (fun j => Own 3 1 (.slice (kat KL j).la (kat KL j).L.length (kat KL j).lc) (kat KL j).L.length (ints .i64 (kat KL j).L)) :: F) hw) (by simp only [kat_set (by rw [hG.len]; exact hp), if_pos]) (fun k hk hne => by simp only [kat_set (by rw [hG.len]; exact hp), if_neg hne]) (by simp only [kat_set (by rw [hG.len]; exact hp), if_pos]) (fun k hk hne => by simp only [kat_set (by rw [hG.len]; exact hp), if_neg hne]))
      exact g_againi (ih (i + 1, KL2.set p k2, Q2, W2) ⟨by simp only; omega, by simp only; omega, hG2⟩ (by simp only; omega)) (.cons rfl (.cons rfl (.cons rfl (.cons rfl (.cons rfl (.nil))))))
    intro hbr
    have hbr := of_decide_eq_false hbr
    refine g_exit rfl ?_
    refine g_seq ?_
    refine g_region ?_
    refine l_assign rfl rfl ?_
    refine l_nil ?_
    refine g_ret Try.func4 rfl (.tmp rfl .nil) ?_
    exact Gives.mki ⟨rfl, rfl⟩
  intro hbr
  have hbr := of_decide_eq_false hbr
  refine l_guard_no rfl rfl rfl ?_
  refine l_guard_no rfl rfl rfl ?_
  refine l_guard_no rfl rfl rfl ?_
  refine l_pick_f rfl rfl rfl ?_
  refine l_nil ?_
  refine g_cond_f rfl ?_
  refine g_exit rfl ?_
  refine g_seq ?_
  refine g_region ?_
  refine l_assign rfl rfl ?_
  refine l_nil ?_
  refine g_ret Try.func4 rfl (.tmp rfl .nil) ?_
  exact Gives.mki ⟨rfl, rfl⟩
theorem fair_all (W : World) (a0 : Option Addr) (n0 c0 : Nat) (X0 : List Int) (hc0 : n0 ≤ c0) (hm0 : c0 ≤ maxLen) (hl0 : X0.length = n0) (hwf0 : ∀ x ∈ X0, (Lit.int .i64 x).wf = true) (hx0 : (n0 = 0 ∧ (a0 = none → c0 = 0)) ∨ ∃ b o, a0 = some ⟨b, o, none⟩ ∧ ∀ (j : Nat) u, (ints .i64 X0)[j]? = some u → W.cell? ⟨b, o + j, none⟩ = some u)
    (a1 : Option Addr) (n1 c1 : Nat) (X1 : List Int) (hc1 : n1 ≤ c1) (hm1 : c1 ≤ maxLen) (hl1 : X1.length = n1) (hwf1 : ∀ x ∈ X1, (Lit.int .i64 x).wf = true) (hx1 : (n1 = 0 ∧ (a1 = none → c1 = 0)) ∨ ∃ b o, a1 = some ⟨b, o, none⟩ ∧ ∀ (j : Nat) u, (ints .i64 X1)[j]? = some u → W.cell? ⟨b, o + j, none⟩ = some u) :
    CallK Try.prog 4 [.slice a0 n0 c0, .slice a1 n1 c1] W [Old W] (Gives W fun v F2 => v = .bool true ∧ F2 = [Old W]) := by
  simp only [maxLen] at hm0 hm1
  exact fair_ok W [Old W] a0 n0 c0 X0 (ir_old hl0 hx0) (getD_i64 (fun x hx => wf_i64' (hwf0 x hx))) (by omega) a1 n1 c1 X1 (ir_old hl1 hx1) (getD_i64 (fun x hx => wf_i64' (hwf1 x hx))) (by omega)
end Go.Proofs.Ythemlddepepekaa.Fw
