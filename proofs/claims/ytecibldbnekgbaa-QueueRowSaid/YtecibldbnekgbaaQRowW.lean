import Derived.Test.YtecibldbnekgbaaQOwnR
import Derived.Test.YtecibldbnekgbaaFw25
namespace Go.Proofs.Ytecibldbnekgbaa.Fw
open Go Go.Proofs
set_option linter.unusedVariables false
set_option linter.unusedSimpArgs false
set_option maxRecDepth 10000
theorem fa_42_0 (a : Addr) (w : World) : (Instr.fieldAt 42 (.pointer (some a)) 0).run Try.prog w = .ok (.pointer (some (a.add 0))) w := by
  simp [Instr.fieldAt, Try.runUnderlying42, Instr.sureAddr, fieldPlace, Try.sizeOf3, Sem.run_bind, Sem.run_pure]
theorem fa_42_1 (a : Addr) (w : World) : (Instr.fieldAt 42 (.pointer (some a)) 1).run Try.prog w = .ok (.pointer (some (a.add 1))) w := by
  simp [Instr.fieldAt, Try.runUnderlying42, Instr.sureAddr, fieldPlace, Try.sizeOf29, Sem.run_bind, Sem.run_pure]
/-- An act of the row. -/
structure ActV where
  kd : Int
  am : Option Addr
  nm : Nat
  cm : Nat
  M : List Int
def actV (o : ActV) : List Value := [.int .i64 o.kd, .slice o.am o.nm o.cm]
theorem actV_len (L : List ActV) : ∀ r ∈ L.map actV, r.length = 2 := by
  intro r hr
  obtain ⟨o, _, rfl⟩ := List.mem_map.1 hr
  rfl
def ActOk (w0 : World) (F : List Atom) (o : ActV) : Prop := IR w0 F .u32 o.am o.nm o.M ∧ W32s o.M ∧ o.nm ≤ 35184372087808
theorem act_at {w0 : World} {F : List Atom} {L : List ActV} (hok : ∀ o ∈ L, ActOk w0 F o) {i : Nat} (h : i < L.length) : ∃ o, (L.map actV)[i]? = some (actV o) ∧ ActOk w0 F o := ⟨L[i], by simp [h], hok _ (List.getElem_mem _)⟩
/-- Where a row stands. -/
structure RowS where
  i : Int
  W : List Int
  Ss : List (List Int)
  Ps : List (List Int)
  sa : Option Addr
  sc : Nat
  ss : List LV
  wa : Option Addr
  wc : Nat
  ws : List LV
  lost : Int
def pQ (wd dp : Nat) : Int := ((1 + dp * (1 + wd) : Nat) : Int)
theorem pQ_eq (wd dp : Nat) : pQ wd dp = ((1 + dp * (1 + wd) : Nat) : Int) := rfl
structure RowI (w0 : World) (F : List Atom) (wd dp on : Nat) (ex : Int) (z : RowS) : Prop where
  i0 : 0 ≤ z.i
  i1 : z.i ≤ on
  q : QSt 320 wd dp 0 (pQ wd dp) z.W z.Ss z.Ps z.lost
  sl : z.ss.length = z.Ss.length
  sr : MsRd w0 F wd z.ss z.Ss
  wl : z.ws.length = z.Ps.length
  wr : MsRd w0 F wd z.ws z.Ps
  l0 : 0 ≤ z.lost
  l1 : z.lost ≤ 8 * z.i + ex
  sa : z.ss.length = 0 ∨ ∃ g, z.sa = some ⟨g, 0, none⟩
theorem RowI.zero {w0 : World} {F : List Atom} {wd dp on : Nat} (d1 : 1 ≤ dp) (hp : dp * (1 + wd) ≤ 136) : RowI w0 F wd dp on 0 ⟨0, List.replicate 320 0, [], [], none, 0, [], none, 0, [], 0⟩ :=
  ⟨Int.le_refl _, by simp only; omega, QSt.zero (by omega) (by unfold pQ; omega) (by unfold pQ; omega), rfl, fun j hj => by simp at hj, rfl, fun j hj => by simp at hj, Int.le_refl _, by simp only; omega, .inl rfl⟩
theorem RowI.next {w0 : World} {F : List Atom} {wd dp on : Nat} {ex : Int} {z : RowS} (H : RowI w0 F wd dp on ex z) (h : z.i < on) (he : ex ≤ 8) : RowI w0 F wd dp on 0 ⟨z.i + 1, z.W, z.Ss, z.Ps, z.sa, z.sc, z.ss, z.wa, z.wc, z.ws, z.lost⟩ :=
  ⟨by have := H.i0; simp only; omega, by simp only; omega, H.q, H.sl, H.sr, H.wl, H.wr, H.l0, by have := H.l1; simp only; omega, H.sa⟩
def PutX (wd dp : Nat) (W : List Int) (Ss Ps : List (List Int)) (ls : Int) (M : List Int) (q : Nat) (ok : Bool) (e : Int) (W2 : List Int) : Prop :=
  (¬ (1 ≤ q ∧ q ≤ wd) → 200 = e ∧ W = W2) ∧ ((1 ≤ q ∧ q ≤ wd) → 0 = e ∧ decide (Ss.length < dp) = ok ∧ (ok = true → QSt 320 wd dp 0 (pQ wd dp) W2 (Ss ++ [M]) Ps ls) ∧ (ok = false → QSt 320 wd dp 0 (pQ wd dp) W2 Ss Ps ls))
theorem RowI.put {w0 : World} {F : List Atom} {wd dp on : Nat} {i : Int} {W W2 M : List Int} {Ss Ps : List (List Int)} {sa sa2 wa : Option Addr} {sc sc2 wc : Nat} {ss ws : List LV} {lost : Int} {x : LV} (H : RowI w0 F wd dp on 0 ⟨i, W, Ss, Ps, sa, sc, ss, wa, wc, ws, lost⟩) (hq : QSt 320 wd dp 0 (pQ wd dp) W2 (Ss ++ [M]) Ps lost) (hx : IR w0 F .u32 x.a x.n M) (h1 : 1 ≤ x.n) (h2 : x.n ≤ wd) (hs : ∃ g, sa2 = some ⟨g, 0, none⟩) : RowI w0 F wd dp on 8 ⟨i, W2, Ss ++ [M], Ps, sa2, sc2, ss ++ [x], wa, wc, ws, lost⟩ :=
  ⟨H.i0, H.i1, hq, by have := H.sl; simp only at this ⊢; simp [this], MsRd.snoc H.sr H.sl hx h1 h2, H.wl, H.wr, H.l0, by have := H.l1; simp only at this ⊢; omega, .inr hs⟩
theorem RowI.same {w0 : World} {F : List Atom} {wd dp on : Nat} {i : Int} {W W2 : List Int} {Ss Ps : List (List Int)} {sa wa : Option Addr} {sc wc : Nat} {ss ws : List LV} {lost : Int} (H : RowI w0 F wd dp on 0 ⟨i, W, Ss, Ps, sa, sc, ss, wa, wc, ws, lost⟩) (hq : QSt 320 wd dp 0 (pQ wd dp) W2 Ss Ps lost) : RowI w0 F wd dp on 8 ⟨i, W2, Ss, Ps, sa, sc, ss, wa, wc, ws, lost⟩ :=
  ⟨H.i0, H.i1, hq, H.sl, H.sr, H.wl, H.wr, H.l0, by have := H.l1; simp only at this ⊢; omega, H.sa⟩
theorem RowI.del {w0 : World} {F : List Atom} {wd dp on : Nat} {i : Int} {W W2 : List Int} {Ss Ps R : List (List Int)} {sa wa wa2 : Option Addr} {sc wc wc2 : Nat} {ss ws ws2 : List LV} {lost l2 : Int} (H : RowI w0 F wd dp on 0 ⟨i, W, Ss, Ps, sa, sc, ss, wa, wc, ws, lost⟩) (hq : QSt 320 wd dp 0 (pQ wd dp) W2 [] R l2) (h1 : ws2.length = R.length) (h2 : MsRd w0 F wd ws2 R) (h3 : 0 ≤ l2) (h4 : l2 ≤ lost + 8) : RowI w0 F wd dp on 8 ⟨i, W2, [], R, none, 0, [], wa2, wc2, ws2, l2⟩ :=
  ⟨H.i0, H.i1, hq, rfl, fun j hj => by simp at hj, h1, h2, h3, by have := H.l1; simp only at this ⊢; omega, .inl rfl⟩
theorem RowI.take {w0 : World} {F : List Atom} {wd dp on : Nat} {i : Int} {W W2 : List Int} {Ss Ps : List (List Int)} {sa wa wa2 : Option Addr} {sc wc wc2 : Nat} {ss ws : List LV} {lost : Int} (H : RowI w0 F wd dp on 0 ⟨i, W, Ss, Ps, sa, sc, ss, wa, wc, ws, lost⟩) (hq : QSt 320 wd dp 0 (pQ wd dp) W2 Ss (Ps.drop 1) lost) : RowI w0 F wd dp on 8 ⟨i, W2, Ss, Ps.drop 1, sa, sc, ss, wa2, wc2, ws.drop 1, lost⟩ :=
  ⟨H.i0, H.i1, hq, H.sl, H.sr, by have := H.wl; simp only at this ⊢; rw [List.length_drop, List.length_drop, this], H.wr.drop, H.l0, by have := H.l1; simp only at this ⊢; omega, H.sa⟩
def TakX (wd dp : Nat) (Ss Ps : List (List Int)) (ls : Int) (th : Bool) (W2 : List Int) : Prop := (th = true → QSt 320 wd dp 0 (pQ wd dp) W2 Ss (Ps.drop 1) ls) ∧ (th = false → QSt 320 wd dp 0 (pQ wd dp) W2 Ss Ps ls)
theorem QSt.tkx {wd dp : Nat} {W W2 : List Int} {Ss Ps : List (List Int)} {ls e : Int} {ok : Bool} (H : QSt 320 wd dp 0 (pQ wd dp) W Ss Ps ls) (hd : 0 < dp) (hw : wd ≤ 16) (hd2 : dp ≤ 8) (hp : dp * (1 + wd) ≤ 136) (hQ : TakQ W (pQ wd dp) wd dp ok e W2) : 0 = e ∧ decide (0 < Ps.length) = ok ∧ TakX wd dp Ss Ps ls ok W2 := by
  obtain ⟨rfl, h⟩ := H.take hd hw hd2 (by unfold pQ; omega) (by unfold pQ; omega) hQ
  refine ⟨rfl, ?_⟩
  rcases h with ⟨rfl, h1, h2⟩ | ⟨rfl, h1, h2⟩
  · exact ⟨decide_eq_true h1, fun _ => h2, fun h => by cases h⟩
  · exact ⟨(by rw [h1]; rfl), fun h => (by cases h), fun _ => h2⟩
def LkX (Ps : List (List Int)) (T : List Int) (th : Bool) : Prop := th = true → 0 < Ps.length ∧ T = tat Ps 0
theorem QSt.lkx {wd dp : Nat} {W T : List Int} {Ss Ps : List (List Int)} {ls e : Int} {th : Bool} (H : QSt 320 wd dp 0 (pQ wd dp) W Ss Ps ls) (hQ : LookQ W (pQ wd dp) wd dp T th e) : 0 = e ∧ decide (0 < Ps.length) = th ∧ LkX Ps T th := by
  obtain ⟨rfl, h⟩ := H.look hQ
  refine ⟨rfl, ?_⟩
  rcases h with ⟨rfl, h1, h2⟩ | ⟨rfl, h1, h2⟩
  · exact ⟨decide_eq_true h1, fun _ => ⟨h1, h2⟩⟩
  · exact ⟨(by rw [h1]; rfl), fun h => (by cases h)⟩
theorem QSt.cntx {wd dp : Nat} {W : List Int} {Ss Ps : List (List Int)} {ls e k l2 : Int} (H : QSt 320 wd dp 0 (pQ wd dp) W Ss Ps ls) (hQ : CntQ W (pQ wd dp) wd dp k l2 e) : 0 = e ∧ (Ps.length : Int) = k ∧ ls = l2 := by
  obtain ⟨h1, h2, h3⟩ := H.count hQ
  exact ⟨h1.symm, h2.symm, h3.symm⟩
theorem QSt.stgx {wd dp : Nat} {W : List Int} {Ss Ps : List (List Int)} {ls e k : Int} (H : QSt 320 wd dp 0 (pQ wd dp) W Ss Ps ls) (hQ : StgdQ W 0 wd dp k e) : 0 = e ∧ (Ss.length : Int) = k := by
  obtain ⟨h1, h2⟩ := H.staged hQ
  exact ⟨h1.symm, h2.symm⟩
theorem que_drop {w0 : World} {F : List Atom} {w : World} {E g o o' cap : Nat} {ws : List LV} (h : Holds w0 (Que E (some ⟨g, o, none⟩) ws.length cap (ws.map lvV) :: F) w) (h1 : 1 ≤ ws.length) (ho : (1 : Int) < cap ∧ o' = o + (1 : Int).toNat * 1 ∨ (cap : Int) ≤ 1 ∧ o' = o) : Holds w0 (Que E (some ⟨g, o', none⟩) (ws.drop 1).length (cap - (1 : Int).toNat) ((ws.drop 1).map lvV) :: F) w := by
  rw [List.length_drop, List.map_drop]
  exact Que.drop h h1 ho

theorem put_r (w0 : World) (F : List Atom) (wd dp : Nat) (w1 : 1 ≤ wd) (w2 : wd ≤ 16) (d1 : 1 ≤ dp) (d2 : dp ≤ 8) (b g c : Nat) (hc : 320 ≤ c) (W : List Int) (Ss Ps : List (List Int)) (ls : Int) (H : QSt 320 wd dp 0 (pQ wd dp) W Ss Ps ls) (a : Option Addr) (q qc : Nat) (M : List Int) (hM : IR w0 F .u32 a q M) (hMU : W32s M) (hq : q ≤ 9223372036854775807) : CallK Try.prog 7 [.pointer (some ⟨b, 0, none⟩), .int .i64 0, .int .i64 (wd : Int), .int .i64 (dp : Int), .slice a q qc] w0 (Blk b (.cells [Value.slice (some ⟨g, 0, none⟩) 320 c].toArray 76 (0, 0)) :: Own 33 1 (.slice (some ⟨g, 0, none⟩) 320 c) 320 (ints .u32 W) :: F) (Gives w0 fun v F2 => ∃ ok e W2, v = .tuple #[.bool ok, .int .i64 e] ∧ F2 = Blk b (.cells [Value.slice (some ⟨g, 0, none⟩) 320 c].toArray 76 (0, 0)) :: Own 33 1 (.slice (some ⟨g, 0, none⟩) 320 c) 320 (ints .u32 W2) :: F ∧ PutX wd dp W Ss Ps ls M q ok e W2) := by
  have hpw := pw_bd w1 w2 d1 d2
  have hpq := pQ_eq wd dp
  by_cases h1 : 1 ≤ q ∧ q ≤ wd
  · refine (put_in w0 F wd dp w1 w2 d1 d2 b g 320 c W H.len hc (by omega) H.u 0 (by unfold inR; omega) a q qc M hM h1.1 h1.2).gmono fun v F2 ⟨ok, e, W2, e1, e2, e3, e4⟩ => ⟨ok, e, W2, e1, e3, fun h => absurd h1 h, fun _ => ?_⟩
    obtain ⟨h2, h3⟩ := H.put (by omega) w2 d2 (by omega) (by omega) ⟨by rw [hM.1]; exact h1, hMU⟩ e4
    refine ⟨h2.symm, ?_⟩
    rcases h3 with ⟨rfl, h4, h5⟩ | ⟨rfl, h4, h5⟩
    · exact ⟨decide_eq_true h4, fun _ => h5, fun h => by cases h⟩
    · exact ⟨decide_eq_false (by omega), fun h => by (cases h), fun _ => h5⟩
  · exact (put_words w0 _ b wd dp w1 w2 d1 d2 0 a q qc (by omega) hq).gmono fun v F2 ⟨e1, e2⟩ => ⟨false, 200, W, e1, e2, fun _ => ⟨rfl, rfl⟩, fun h => absurd h h1⟩
set_option maxHeartbeats 16000000 in
theorem row_ok (w0 : World) (F : List Atom) (wd dp : Nat) (w1 : 1 ≤ wd) (w2 : wd ≤ 16) (d1 : 1 ≤ dp) (d2 : dp ≤ 8) (oa : Option Addr) (on oc : Nat) (L : List ActV) (hLl : L.length = on) (hs : on = 0 ∨ ∃ b o, oa = some ⟨b, o, none⟩ ∧ RowAt w0 F b o (L.map actV).flatten) (hok : ∀ o ∈ L, ActOk w0 F o) (hon : on ≤ 400) :
    CallK Try.prog 4 [.int .i64 (wd : Int), .int .i64 (dp : Int), .slice oa on oc] w0 (F) (Gives w0 fun v F2 => v = .bool true ∧ F2 = F) := by
  refine c_enter Try.func4 rfl rfl rfl ?_
  refine g_seq ?_
  refine g_region ?_
  refine l_assign rfl rfl ?_
  refine l_nil ?_
  refine g_seq ?_
  refine g_seq ?_
  refine g_region ?_
  refine l_move rfl rfl ?_
  refine l_lss rfl rfl rfl ?_
  refine l_move rfl rfl ?_
  refine l_split 30 rfl ?_ ?_
  · intro hbr
    have hbr := of_decide_eq_true hbr
    (exfalso; first | omega | (simp only [hpx5] at hbr; simp at hbr; done) | (simp only [hth2] at hbr; simp at hbr; done))
  intro hbr
  have hbr := of_decide_eq_false hbr
  refine l_guard_yes rfl rfl ?_
  refine l_move rfl rfl ?_
  refine l_guard_yes rfl rfl ?_
  refine l_gtr rfl rfl rfl ?_
  refine l_pick_f rfl rfl rfl ?_
  refine l_move rfl rfl ?_
  refine l_split 34 rfl ?_ ?_
  · intro hbr
    have hbr := of_decide_eq_true hbr
    (exfalso; first | omega | (simp only [hpx5] at hbr; simp at hbr; done) | (simp only [hth2] at hbr; simp at hbr; done))
  intro hbr
  have hbr := of_decide_eq_false hbr
  refine l_guard_yes rfl rfl ?_
  refine l_move rfl rfl ?_
  refine l_guard_yes rfl rfl ?_
  refine l_lss rfl rfl rfl ?_
  refine l_pick_f rfl rfl rfl ?_
  refine l_move rfl rfl ?_
  refine l_split 38 rfl ?_ ?_
  · intro hbr
    have hbr := of_decide_eq_true hbr
    (exfalso; first | omega | (simp only [hpx5] at hbr; simp at hbr; done) | (simp only [hth2] at hbr; simp at hbr; done))
  intro hbr
  have hbr := of_decide_eq_false hbr
  refine l_guard_yes rfl rfl ?_
  refine l_move rfl rfl ?_
  refine l_guard_yes rfl rfl ?_
  refine l_gtr rfl rfl rfl ?_
  refine l_pick_f rfl rfl rfl ?_
  refine l_move rfl rfl ?_
  refine l_split 42 rfl ?_ ?_
  · intro hbr
    have hbr := of_decide_eq_true hbr
    (exfalso; first | omega | (simp only [hpx5] at hbr; simp at hbr; done) | (simp only [hth2] at hbr; simp at hbr; done))
  intro hbr
  have hbr := of_decide_eq_false hbr
  refine l_guard_yes rfl rfl ?_
  refine l_move rfl rfl ?_
  refine l_guard_yes rfl rfl ?_
  refine l_len rfl Try.underlying37 rfl ?_
  refine l_guard_yes rfl rfl ?_
  refine l_gtr rfl rfl rfl ?_
  refine l_pick_f rfl rfl rfl ?_
  refine l_nil ?_
  refine g_cond rfl ?_ ?_
  · intro hbr
    have hbr := of_decide_eq_true hbr
    (exfalso; first | omega | (simp only [hpx5] at hbr; simp at hbr; done) | (simp only [hth2] at hbr; simp at hbr; done))
  intro hbr
  have hbr := of_decide_eq_false hbr
  refine g_skip ?_
  refine g_seq ?_
  refine g_region ?_
  refine l_call rfl Try.call13 rfl (new_ok _ _ 20 (by omega) (by omega)) ?_; rintro _ _ ⟨b, g, c, rfl, hc, hF9⟩; rw [hF9]; clear hF9
  rw [show ((20 : Int) * 16).toNat = 320 from rfl] at *
  have hpw := pw_bd w1 w2 d1 d2
  have hpq := pQ_eq wd dp
  refine l_move rfl rfl ?_
  refine l_extract rfl rfl rfl ?_
  refine l_extract rfl rfl rfl ?_
  refine l_assign rfl rfl ?_
  refine l_assign rfl rfl ?_
  refine l_nil ?_
  refine g_seq ?_
  refine g_seq ?_
  refine g_region ?_
  refine l_move rfl rfl ?_
  refine l_neq rfl rfl rfl ?_
  refine l_nil ?_
  refine g_cond rfl ?_ ?_
  · intro hbr
    have hbr := of_decide_eq_true hbr
    (exfalso; first | omega | (simp only [hpx5] at hbr; simp at hbr; done) | (simp only [hth2] at hbr; simp at hbr; done))
  intro hbr
  have hbr := of_decide_eq_false hbr
  refine g_skip ?_
  refine g_seq ?_
  refine g_region ?_
  refine l_move rfl rfl ?_
  refine l_move rfl rfl ?_
  first | refine l_add rfl rfl rfl (w_i64 (by omega) (by omega)) ?_ | refine l_addw rfl rfl rfl ?_
  refine l_mul rfl rfl rfl (w_i64 (by rw [mul_nat]; omega) (by rw [mul_nat]; omega)) ?_
  refine l_add rfl rfl rfl (w_i64 (by rw [mul_nat]; omega) (by rw [mul_nat]; omega)) ?_
  rw [show (1 : Int) + (dp : Int) * (1 + (wd : Int)) = pQ wd dp from all_nat 1 wd dp]
  refine l_assign rfl rfl ?_
  refine l_nil ?_
  refine g_seq ?_
  refine g_region ?_
  refine l_assign rfl rfl ?_
  refine l_assign rfl rfl ?_
  refine l_nil ?_
  refine g_seq ?_
  refine g_region ?_
  refine l_assign rfl rfl ?_
  refine l_nil ?_
  refine g_seq ?_
  refine g_seq ?_
  refine g_region ?_
  refine l_assign rfl rfl ?_
  refine l_nil ?_
  refine g_block ?_
  refine g_own_nil 29 1 ?_
  refine g_que_nil 29 ?_
  refine g_loopk (X := RowS) [(0, _), (1, _), (2, _), (7, _), (9, _)] (.cons rfl (.cons rfl (.cons rfl (.cons rfl (.cons rfl (.nil)))))) (fun z => RowI w0 F wd dp on 0 z) (fun z => ((on : Int) - z.i).toNat) (fun z => [(10, .slice z.sa z.ss.length z.sc), (11, .slice z.wa z.ws.length z.wc), (12, .int .i64 z.lost), (13, .int .i64 z.i)]) (fun z => Own 29 1 (.slice z.sa z.ss.length z.sc) z.ss.length (z.ss.map lvV) :: Que 29 z.wa z.ws.length z.wc (z.ws.map lvV) :: Blk b (.cells [Value.slice (some ⟨g, 0, none⟩) 320 c].toArray 76 (0, 0)) :: Own 33 1 (.slice (some ⟨g, 0, none⟩) 320 c) 320 (ints .u32 z.W) :: F) (⟨0, List.replicate 320 0, [], [], none, 0, [], none, 0, [], 0⟩) (RowI.zero d1 hpw.2) (.cons rfl (.cons rfl (.cons rfl (.cons rfl .nil)))) (fun w hw => (SPI.holds hw : Holds w0 (Own 29 1 (.slice none 0 0) 0 [] :: Que 29 none 0 0 [] :: Blk b (.cells [Value.slice (some ⟨g, 0, none⟩) 320 c].toArray 76 (0, 0)) :: Own 33 1 (.slice (some ⟨g, 0, none⟩) 320 c) 320 (ints .u32 (List.replicate 320 0)) :: F) w)) ?_
  rintro ⟨i, W, Ss, Ps, sa, sc, ss, wa, wc, ws, lost⟩ hI ih
  dsimp only [List.cons_append, List.nil_append] at ih ⊢
  have hI0 := hI
  obtain ⟨i0, i1, hQ, hsl, hsr, hwl, hwr, l0, l1, hsa⟩ := hI0
  simp only at i0 i1 hQ hsl hsr hwl hwr l0 l1 hsa
  have hU := hQ.u
  have hWl := hQ.len
  have hs9 := (hQ.ss d1).1
  have hp9 := (hQ.ps d1).1
  refine g_seq ?_
  refine g_seq ?_
  refine g_region ?_
  refine l_move rfl rfl ?_
  refine l_move rfl rfl ?_
  refine l_len rfl Try.underlying37 rfl ?_
  refine l_lss rfl rfl rfl ?_
  refine l_nil ?_
  refine g_cond rfl ?_ ?_
  · intro hbr
    have hbr := of_decide_eq_true hbr
    refine g_skip ?_
    refine g_seq ?_
    refine g_block ?_
    refine g_seq ?_
    refine g_seq ?_
    refine g_join0 (X := RowS) [(0, _), (1, _), (2, _), (7, _), (9, _), (13, _), (58, _), (59, _), (60, _), (61, _)] (.cons rfl (.cons rfl (.cons rfl (.cons rfl (.cons rfl (.cons rfl (.cons rfl (.cons rfl (.cons rfl (.cons rfl (.nil))))))))))) (fun z => RowI w0 F wd dp on 8 z ∧ i = z.i) (fun z => [(10, .slice z.sa z.ss.length z.sc), (11, .slice z.wa z.ws.length z.wc), (12, .int .i64 z.lost)]) (fun z => Own 29 1 (.slice z.sa z.ss.length z.sc) z.ss.length (z.ss.map lvV) :: Que 29 z.wa z.ws.length z.wc (z.ws.map lvV) :: Blk b (.cells [Value.slice (some ⟨g, 0, none⟩) 320 c].toArray 76 (0, 0)) :: Own 33 1 (.slice (some ⟨g, 0, none⟩) 320 c) 320 (ints .u32 z.W) :: F) ?_ ?_
    · rintro ⟨i2, W, Ss, Ps, sa, sc, ss, wa, wc, ws, lost⟩ ⟨hI, hi2⟩
      dsimp only [List.cons_append, List.nil_append]
      simp only at hi2
      subst hi2
      have hI0 := hI
      obtain ⟨i0, i1, hQ, hsl, hsr, hwl, hwr, l0, l1, hsa⟩ := hI0
      simp only at i0 i1 hQ hsl hsr hwl hwr l0 l1 hsa
      have hU := hQ.u
      have hWl := hQ.len
      have hs9 := (hQ.ss d1).1
      have hp9 := (hQ.ps d1).1
      refine g_seq ?_
      refine g_region ?_
      refine l_move rfl rfl ?_
      refine l_move rfl rfl ?_
      refine l_move rfl rfl ?_
      refine l_move rfl rfl ?_
      refine l_fronto g ?_
      refine l_frontb b ?_
      refine l_call rfl Try.call12 rfl (count_in _ _ wd dp w1 w2 d1 d2 b g 320 c W hQ.len hc (by omega) hQ.u (pQ wd dp) (by unfold inR; omega)) ?_; rintro _ _ ⟨k9, l9, e9, rfl, rfl, hC⟩
      obtain ⟨rfl, rfl, rfl⟩ := hQ.cntx hC
      refine l_move rfl rfl ?_
      refine l_extract rfl rfl rfl ?_
      refine l_extract rfl rfl rfl ?_
      refine l_extract rfl rfl rfl ?_
      refine l_assign rfl rfl ?_
      refine l_assign rfl rfl ?_
      refine l_assign rfl rfl ?_
      refine l_nil ?_
      refine g_seq ?_
      refine g_region ?_
      refine l_move rfl rfl ?_
      refine l_move rfl rfl ?_
      refine l_move rfl rfl ?_
      refine l_fronto g ?_
      refine l_frontb b ?_
      refine l_call rfl Try.call8 rfl (stgd_in _ _ wd dp w1 w2 d1 d2 b g 320 c W hQ.len hc (by omega) hQ.u 0 (by unfold inR; omega)) ?_; rintro _ _ ⟨k8, e8, rfl, rfl, hC⟩
      obtain ⟨rfl, rfl⟩ := hQ.stgx hC
      refine l_move rfl rfl ?_
      refine l_extract rfl rfl rfl ?_
      refine l_extract rfl rfl rfl ?_
      refine l_assign rfl rfl ?_
      refine l_assign rfl rfl ?_
      refine l_nil ?_
      refine g_seq ?_
      refine g_region ?_
      refine l_move rfl rfl ?_
      refine l_neq rfl rfl rfl ?_
      refine l_move rfl rfl ?_
      refine l_split 211 rfl ?_ ?_
      · intro hbr
        have hbr := of_decide_eq_true hbr
        (exfalso; first | omega | (simp only [hpx5] at hbr; simp at hbr; done) | (simp only [hth2] at hbr; simp at hbr; done))
      intro hbr
      have hbr := of_decide_eq_false hbr
      refine l_guard_yes rfl rfl ?_
      refine l_move rfl rfl ?_
      refine l_guard_yes rfl rfl ?_
      refine l_neq rfl rfl rfl ?_
      refine l_pick_f rfl rfl rfl ?_
      refine l_move rfl rfl ?_
      refine l_split 215 rfl ?_ ?_
      · intro hbr
        have hbr := of_decide_eq_true hbr
        (exfalso; first | omega | (simp only [hpx5] at hbr; simp at hbr; done) | (simp only [hth2] at hbr; simp at hbr; done))
      intro hbr
      have hbr := of_decide_eq_false hbr
      refine l_guard_yes rfl rfl ?_
      refine l_move rfl rfl ?_
      refine l_guard_yes rfl rfl ?_
      refine l_move rfl rfl ?_
      refine l_guard_yes rfl rfl ?_
      refine l_len rfl Try.underlying40 rfl ?_
      refine l_guard_yes rfl rfl ?_
      refine l_neq rfl rfl rfl ?_
      refine l_pick_f rfl rfl rfl ?_
      refine l_move rfl rfl ?_
      refine l_split 221 rfl ?_ ?_
      · intro hbr
        have hbr := of_decide_eq_true hbr
        (exfalso; first | omega | (simp only [hpx5] at hbr; simp at hbr; done) | (simp only [hth2] at hbr; simp at hbr; done))
      intro hbr
      have hbr := of_decide_eq_false hbr
      refine l_guard_yes rfl rfl ?_
      refine l_move rfl rfl ?_
      refine l_guard_yes rfl rfl ?_
      first | refine l_conv rfl Try.underlying33 Try.underlying3 rfl (w_i64 (by omega) (by omega)) ?_ | refine l_convw rfl Try.underlying33 Try.underlying3 rfl ?_
      refine l_guard_yes rfl rfl ?_
      refine l_move rfl rfl ?_
      refine l_guard_yes rfl rfl ?_
      refine l_neq rfl rfl rfl ?_
      refine l_pick_f rfl rfl rfl ?_
      refine l_move rfl rfl ?_
      refine l_split 227 rfl ?_ ?_
      · intro hbr
        have hbr := of_decide_eq_true hbr
        (exfalso; first | omega | (simp only [hpx5] at hbr; simp at hbr; done) | (simp only [hth2] at hbr; simp at hbr; done))
      intro hbr
      have hbr := of_decide_eq_false hbr
      refine l_guard_yes rfl rfl ?_
      refine l_move rfl rfl ?_
      refine l_guard_yes rfl rfl ?_
      refine l_move rfl rfl ?_
      refine l_guard_yes rfl rfl ?_
      refine l_len rfl Try.underlying40 rfl ?_
      refine l_guard_yes rfl rfl ?_
      refine l_neq rfl rfl rfl ?_
      refine l_pick_f rfl rfl rfl ?_
      refine l_nil ?_
      refine g_cond rfl ?_ ?_
      · intro hbr
        have hbr := of_decide_eq_true hbr
        (exfalso; first | omega | (simp only [hpx5] at hbr; simp at hbr; done) | (simp only [hth2] at hbr; simp at hbr; done))
      intro hbr
      have hbr := of_decide_eq_false hbr
      refine g_skip ?_
      refine g_inBlock ?_
      refine g_region ?_
      refine l_move rfl rfl ?_
      first | refine l_add rfl rfl rfl (w_i64 (by omega) (by omega)) ?_ | refine l_addw rfl rfl rfl ?_
      refine l_assign rfl rfl ?_
      refine l_nil ?_
      (first | exact g_againi (ih ⟨i + 1, W, Ss, Ps, sa, sc, ss, wa, wc, ws, lost⟩ (hI.next (by simp only; omega) (by omega)) (by simp only; omega)) (.cons rfl (.cons rfl (.cons rfl (.cons rfl (.cons rfl (.cons rfl (.cons rfl (.cons rfl (.cons rfl (.nil)))))))))) | exact g_againi (ih ⟨i + 1, W3, Ss, Ps, sa, sc, ss, wa, wc, ws, lost⟩ ((hI.same (hTk.2 (by simpa using hb184))).next (by simp only; omega) (by omega)) (by simp only; omega)) (.cons rfl (.cons rfl (.cons rfl (.cons rfl (.cons rfl (.cons rfl (.cons rfl (.cons rfl (.cons rfl (.nil)))))))))))
    intro joinJ
    dsimp only [List.cons_append, List.nil_append] at joinJ
    refine g_region ?_
    refine l_move rfl rfl ?_
    refine l_move rfl rfl ?_
    obtain ⟨b9, q9, rfl, hr9⟩ := hs.resolve_left (show ¬ on = 0 by omega)
    obtain ⟨⟨kd, am, nm, cm, M⟩, hrow, o1, o2, o3⟩ := act_at hok (show i.toNat < L.length by omega)
    simp only at o1 o2 o3
    have hre : RowAt w0 F b9 (q9 + i.toNat * 2) [Value.int .i64 kd, .slice am nm cm] := row_elem hr9 (actV_len L) hrow
    refine l_ixs rfl Try.underlying37 Try.sizeOf42 rfl rfl (by omega) (by omega) ?_
    refine l_fieldAddr rfl fa_42_0 rfl ?_
    refine l_loadc rfl Try.isAgg3 rfl (hre.ex.cell (j := 0) (v := .int .i64 kd) rfl) ?_
    refine l_nil ?_
    refine g_block ?_
    refine g_seq ?_
    refine g_region ?_
    refine l_eql rfl rfl rfl ?_
    refine l_assign rfl rfl ?_
    refine l_nil ?_
    refine g_cond rfl ?_ ?_
    · intro hbr
      have hbr := of_decide_eq_true hbr
      refine g_seq ?_
      refine g_region ?_
      refine l_move rfl rfl ?_
      refine l_move rfl rfl ?_
      refine l_ixs rfl Try.underlying37 Try.sizeOf42 rfl rfl (by omega) (by omega) ?_
      refine l_fieldAddr rfl fa_42_1 rfl ?_
      refine l_loadc rfl Try.isAgg29 rfl (hre.ex.cell (j := 1) (v := .slice am nm cm) rfl) ?_
      refine l_len rfl Try.underlying29 rfl ?_
      refine l_assign rfl rfl ?_
      refine l_nil ?_
      refine g_seq ?_
      refine g_region ?_
      refine l_move rfl rfl ?_
      refine l_move rfl rfl ?_
      refine l_move rfl rfl ?_
      refine l_move rfl rfl ?_
      refine l_move rfl rfl ?_
      refine l_ixs rfl Try.underlying37 Try.sizeOf42 rfl rfl (by omega) (by omega) ?_
      refine l_fieldAddr rfl fa_42_1 rfl ?_
      refine l_loadc rfl Try.isAgg29 rfl (hre.ex.cell (j := 1) (v := .slice am nm cm) rfl) ?_
      refine l_call rfl Try.call14 rfl (copy_words _ _ am nm cm M o1.ex (by omega) o2) ?_; rintro _ _ ⟨gc, rfl, rfl⟩
      refine l_fronto g ?_
      refine l_frontb b ?_
      refine l_call rfl Try.call7 rfl (put_r _ _ wd dp w1 w2 d1 d2 b g c hc W Ss Ps lost hQ (some ⟨gc, 0, none⟩) nm nm M (IR.own o1.1 (mem_getO 0 rfl) (.inr ⟨_, rfl⟩)) o2 (by omega)) ?_; rintro _ _ ⟨ok, e, W2, rfl, rfl, hPx⟩
      refine l_move rfl rfl ?_
      refine l_extract rfl rfl rfl ?_
      refine l_extract rfl rfl rfl ?_
      refine l_assign rfl rfl ?_
      refine l_assign rfl rfl ?_
      refine l_nil ?_
      refine g_seq ?_
      refine g_seq ?_
      refine g_region ?_
      refine l_move rfl rfl ?_
      refine l_lss rfl rfl rfl ?_
      refine l_move rfl rfl ?_
      refine l_split 92 rfl ?_ ?_
      · intro hbr
        have hbr := of_decide_eq_true hbr
        refine l_guard_no rfl rfl rfl ?_
        refine l_guard_no rfl rfl rfl ?_
        refine l_guard_no rfl rfl rfl ?_
        refine l_pick_t rfl rfl rfl ?_
        refine l_nil ?_
        refine g_cond_t rfl ?_
        refine g_seq ?_
        refine g_seq ?_
        refine g_region ?_
        obtain ⟨rfl, rfl⟩ := hPx.1 (by omega)
        refine l_move rfl rfl ?_
        refine l_neq rfl rfl rfl ?_
        refine l_nil ?_
        refine g_cond rfl ?_ ?_
        · intro hbr
          have hbr := of_decide_eq_true hbr
          (exfalso; first | omega | (simp only [hpx5] at hbr; simp at hbr; done) | (simp only [hth2] at hbr; simp at hbr; done))
        intro hbr
        have hbr := of_decide_eq_false hbr
        refine g_skip ?_
        refine g_exit rfl ?_
        refine g_region ?_
        refine l_move rfl rfl ?_
        first | refine l_add rfl rfl rfl (w_i64 (by omega) (by omega)) ?_ | refine l_addw rfl rfl rfl ?_
        refine l_assign rfl rfl ?_
        refine l_nil ?_
        (first | exact g_againi (ih ⟨i + 1, W, Ss, Ps, sa, sc, ss, wa, wc, ws, lost⟩ (hI.next (by simp only; omega) (by omega)) (by simp only; omega)) (.cons rfl (.cons rfl (.cons rfl (.cons rfl (.cons rfl (.cons rfl (.cons rfl (.cons rfl (.cons rfl (.nil)))))))))) | exact g_againi (ih ⟨i + 1, W3, Ss, Ps, sa, sc, ss, wa, wc, ws, lost⟩ ((hI.same (hTk.2 (by simpa using hb184))).next (by simp only; omega) (by omega)) (by simp only; omega)) (.cons rfl (.cons rfl (.cons rfl (.cons rfl (.cons rfl (.cons rfl (.cons rfl (.cons rfl (.cons rfl (.nil)))))))))))
      intro hbr
      have hbr := of_decide_eq_false hbr
      refine l_guard_yes rfl rfl ?_
      refine l_move rfl rfl ?_
      refine l_guard_yes rfl rfl ?_
      refine l_move rfl rfl ?_
      refine l_guard_yes rfl rfl ?_
      refine l_gtr rfl rfl rfl ?_
      refine l_pick_f rfl rfl rfl ?_
      refine l_nil ?_
      refine g_cond rfl ?_ ?_
      · intro hbr
        have hbr := of_decide_eq_true hbr
        refine g_seq ?_
        refine g_seq ?_
        refine g_region ?_
        obtain ⟨rfl, rfl⟩ := hPx.1 (by omega)
        refine l_move rfl rfl ?_
        refine l_neq rfl rfl rfl ?_
        refine l_nil ?_
        refine g_cond rfl ?_ ?_
        · intro hbr
          have hbr := of_decide_eq_true hbr
          (exfalso; first | omega | (simp only [hpx5] at hbr; simp at hbr; done) | (simp only [hth2] at hbr; simp at hbr; done))
        intro hbr
        have hbr := of_decide_eq_false hbr
        refine g_skip ?_
        refine g_exit rfl ?_
        refine g_region ?_
        refine l_move rfl rfl ?_
        first | refine l_add rfl rfl rfl (w_i64 (by omega) (by omega)) ?_ | refine l_addw rfl rfl rfl ?_
        refine l_assign rfl rfl ?_
        refine l_nil ?_
        (first | exact g_againi (ih ⟨i + 1, W, Ss, Ps, sa, sc, ss, wa, wc, ws, lost⟩ (hI.next (by simp only; omega) (by omega)) (by simp only; omega)) (.cons rfl (.cons rfl (.cons rfl (.cons rfl (.cons rfl (.cons rfl (.cons rfl (.cons rfl (.cons rfl (.nil)))))))))) | exact g_againi (ih ⟨i + 1, W3, Ss, Ps, sa, sc, ss, wa, wc, ws, lost⟩ ((hI.same (hTk.2 (by simpa using hb184))).next (by simp only; omega) (by omega)) (by simp only; omega)) (.cons rfl (.cons rfl (.cons rfl (.cons rfl (.cons rfl (.cons rfl (.cons rfl (.cons rfl (.cons rfl (.nil)))))))))))
      intro hbr
      have hbr := of_decide_eq_false hbr
      refine g_skip ?_
      refine g_seq ?_
      refine g_seq ?_
      refine g_region ?_
      obtain ⟨rfl, hpx2, hpx3, hpx4⟩ := hPx.2 (by omega)
      have hpx5 : decide ((ss.length : Int) < (dp : Int)) = ok := by rw [← hpx2]; exact decide_eq_decide.2 (by omega)
      refine l_move rfl rfl ?_
      refine l_neq rfl rfl rfl ?_
      refine l_move rfl rfl ?_
      refine l_split 101 rfl ?_ ?_
      · intro hbr
        have hbr := of_decide_eq_true hbr
        (exfalso; first | omega | (simp only [hpx5] at hbr; simp at hbr; done) | (simp only [hth2] at hbr; simp at hbr; done))
      intro hbr
      have hbr := of_decide_eq_false hbr
      refine l_guard_yes rfl rfl ?_
      refine l_move rfl rfl ?_
      refine l_guard_yes rfl rfl ?_
      refine l_move rfl rfl ?_
      refine l_guard_yes rfl rfl ?_
      refine l_len rfl Try.underlying40 rfl ?_
      refine l_guard_yes rfl rfl ?_
      refine l_move rfl rfl ?_
      refine l_guard_yes rfl rfl ?_
      refine l_lss rfl rfl rfl ?_
      refine l_guard_yes rfl rfl ?_
      refine l_neqb rfl Try.underlying4 rfl rfl ?_
      refine l_pick_f rfl rfl rfl ?_
      refine l_nil ?_
      refine g_cond rfl ?_ ?_
      · intro hbr
        first | (exfalso; simp at hbr; done) | (exfalso; simp at hbr; omega) | (exfalso; first | omega | (simp only [hpx5] at hbr; simp at hbr; done) | (simp only [hth2] at hbr; simp at hbr; done))
      intro hbr
      have hb108 := hbr
      refine g_skip ?_
      refine g_seq ?_
      refine g_region ?_
      refine l_move rfl rfl ?_
      refine l_nil ?_
      refine g_cond rfl ?_ ?_
      · intro hbr
        have hb109 := hbr
        refine g_region ?_
        refine l_move rfl rfl ?_
        refine l_move rfl rfl ?_
        refine l_move rfl rfl ?_
        refine l_ixs rfl Try.underlying37 Try.sizeOf42 rfl rfl (by omega) (by omega) ?_
        refine l_fieldAddr rfl fa_42_1 rfl ?_
        refine l_loadc rfl Try.isAgg29 rfl (hre.ex.cell (j := 1) (v := .slice am nm cm) rfl) ?_
        refine l_frontv (.slice sa ss.length sc) ?_
        refine l_buildSlice rfl Try.underlying40 Try.sizeOf29 Try.zeroValue29 rfl rfl rfl rfl rfl rfl ?_; intro b116
        refine l_append 1 (sz := 1) (by_ := 24) (m2 := 1) (news := [Value.slice am nm cm]) rfl Try.underlying40 Try.type29 rfl rfl rfl rfl rfl rfl rfl rfl ⟨rfl, .inl ⟨_, _, _, rfl, .own (mem_getO 0 rfl)⟩⟩ rfl (by omega) (by simp only [maxLen]; omega) (fun _ => rfl) ?_; intro v117 hv117
        refine l_fact (own_cases (mem_getO 1 rfl)) ?_
        rintro ⟨_, _, hv | ⟨g117, c117, rfl, hc117⟩⟩
        · exact absurd (hv117.1 hv.1).2 (by omega)
        rw [show ss.map lvV ++ [Value.slice am nm cm] = (ss ++ [(LV.mk am nm cm)]).map lvV by simp [lvV], show ss.length + 1 = (ss ++ [(LV.mk am nm cm)]).length by simp]
        refine l_assign rfl rfl ?_
        refine l_nil ?_
        refine g_inBlock ?_
        (first | exact g_againi (joinJ ⟨i, W, Ss, Ps, sa, sc, ss, wa, wc, ws, lost⟩ ⟨hI.same hQ, rfl⟩) (.cons rfl (.cons rfl (.cons rfl (.cons rfl (.cons rfl (.cons rfl (.cons rfl (.cons rfl (.cons rfl (.cons rfl (.cons rfl (.cons rfl (.cons rfl (.nil)))))))))))))) | exact g_againi (joinJ ⟨i, W2, Ss ++ [M], Ps, some ⟨g117, 0, none⟩, c117, ss ++ [(LV.mk am nm cm)], wa, wc, ws, lost⟩ ⟨hI.put (hpx3 hb109) o1 (by simp only; omega) (by simp only; omega) ⟨_, rfl⟩, rfl⟩) (.cons rfl (.cons rfl (.cons rfl (.cons rfl (.cons rfl (.cons rfl (.cons rfl (.cons rfl (.cons rfl (.cons rfl (.cons rfl (.cons rfl (.cons rfl (.nil)))))))))))))) | exact g_againi (joinJ ⟨i, W2, Ss, Ps, sa, sc, ss, wa, wc, ws, lost⟩ ⟨hI.same (hpx4 hb109), rfl⟩) (.cons rfl (.cons rfl (.cons rfl (.cons rfl (.cons rfl (.cons rfl (.cons rfl (.cons rfl (.cons rfl (.cons rfl (.cons rfl (.cons rfl (.cons rfl (.nil)))))))))))))) | exact g_againi (joinJ ⟨i, W2, [], R, none, 0, [], aR, cR, wR, l9⟩ ⟨hI.del hQ2 hlen hrd l0R (by omega), rfl⟩) (.cons rfl (.cons rfl (.cons rfl (.cons rfl (.cons rfl (.cons rfl (.cons rfl (.cons rfl (.cons rfl (.cons rfl (.cons rfl (.cons rfl (.cons rfl (.nil)))))))))))))) | exact g_againi (joinJ ⟨i, W3, Ss, Ps.drop 1, sa, sc, ss, some ⟨gw, o192, none⟩, wc - (1 : Int).toNat, ws.drop 1, lost⟩ ⟨hI.take (hTk.1 hth), rfl⟩) (.cons rfl (.cons rfl (.cons rfl (.cons rfl (.cons rfl (.cons rfl (.cons rfl (.cons rfl (.cons rfl (.cons rfl (.cons rfl (.cons rfl (.cons rfl (.nil)))))))))))))))
      intro hbr
      have hb109 := hbr
      refine g_skip ?_
      refine g_inBlock ?_
      (first | exact g_againi (joinJ ⟨i, W, Ss, Ps, sa, sc, ss, wa, wc, ws, lost⟩ ⟨hI.same hQ, rfl⟩) (.cons rfl (.cons rfl (.cons rfl (.cons rfl (.cons rfl (.cons rfl (.cons rfl (.cons rfl (.cons rfl (.cons rfl (.cons rfl (.cons rfl (.cons rfl (.nil)))))))))))))) | exact g_againi (joinJ ⟨i, W2, Ss ++ [M], Ps, some ⟨g117, 0, none⟩, c117, ss ++ [(LV.mk am nm cm)], wa, wc, ws, lost⟩ ⟨hI.put (hpx3 hb109) o1 (by simp only; omega) (by simp only; omega) ⟨_, rfl⟩, rfl⟩) (.cons rfl (.cons rfl (.cons rfl (.cons rfl (.cons rfl (.cons rfl (.cons rfl (.cons rfl (.cons rfl (.cons rfl (.cons rfl (.cons rfl (.cons rfl (.nil)))))))))))))) | exact g_againi (joinJ ⟨i, W2, Ss, Ps, sa, sc, ss, wa, wc, ws, lost⟩ ⟨hI.same (hpx4 hb109), rfl⟩) (.cons rfl (.cons rfl (.cons rfl (.cons rfl (.cons rfl (.cons rfl (.cons rfl (.cons rfl (.cons rfl (.cons rfl (.cons rfl (.cons rfl (.cons rfl (.nil)))))))))))))) | exact g_againi (joinJ ⟨i, W2, [], R, none, 0, [], aR, cR, wR, l9⟩ ⟨hI.del hQ2 hlen hrd l0R (by omega), rfl⟩) (.cons rfl (.cons rfl (.cons rfl (.cons rfl (.cons rfl (.cons rfl (.cons rfl (.cons rfl (.cons rfl (.cons rfl (.cons rfl (.cons rfl (.cons rfl (.nil)))))))))))))) | exact g_againi (joinJ ⟨i, W3, Ss, Ps.drop 1, sa, sc, ss, some ⟨gw, o192, none⟩, wc - (1 : Int).toNat, ws.drop 1, lost⟩ ⟨hI.take (hTk.1 hth), rfl⟩) (.cons rfl (.cons rfl (.cons rfl (.cons rfl (.cons rfl (.cons rfl (.cons rfl (.cons rfl (.cons rfl (.cons rfl (.cons rfl (.cons rfl (.cons rfl (.nil)))))))))))))))
    intro hbr
    have hbr := of_decide_eq_false hbr
    refine g_seq ?_
    refine g_region ?_
    refine l_eql rfl rfl rfl ?_
    refine l_assign rfl rfl ?_
    refine l_nil ?_
    refine g_cond rfl ?_ ?_
    · intro hbr
      have hbr := of_decide_eq_true hbr
      refine g_seq ?_
      refine g_seq ?_
      refine g_region ?_
      refine l_move rfl rfl ?_
      refine l_move rfl rfl ?_
      refine l_move rfl rfl ?_
      refine l_move rfl rfl ?_
      refine l_buildSlice rfl Try.underlying52 Try.sizeOf3 Try.zeroValue3 rfl rfl rfl rfl rfl rfl ?_; intro b124
      refine l_fronto g ?_
      refine l_frontb b ?_
      refine l_call rfl Try.call9 rfl (deliver1 _ _ wd dp w1 w2 d1 d2 b g 320 c W hQ.len hc (by omega) hQ.u 0 (pQ wd dp) (by unfold inR; omega) (by unfold inR; omega) b124 1 (.own (mem_getO 0 rfl)) Ss Ps hQ.stg hQ.prt) ?_; rintro _ _ ⟨R, l9, rfl, hdl0, rfl⟩
      have hQ2 := hQ.del (by omega) w2 d2 (by omega) (by omega) hdl0
      rw [hQ.lost] at hdl0
      obtain ⟨W2, hW2⟩ : ∃ X, delW W 0 (pQ wd dp) wd dp (W.getD (pQ wd dp).toNat 0).toNat R l9 = X := ⟨_, rfl⟩
      rw [hW2] at hQ2 ⊢
      refine l_neq rfl rfl rfl ?_
      refine l_nil ?_
      refine g_cond rfl ?_ ?_
      · intro hbr
        have hbr := of_decide_eq_true hbr
        (exfalso; first | omega | (simp only [hpx5] at hbr; simp at hbr; done) | (simp only [hth2] at hbr; simp at hbr; done))
      intro hbr
      have hbr := of_decide_eq_false hbr
      refine g_skip ?_
      refine g_seq ?_
      refine g_seq ?_
      refine g_region ?_
      refine l_assign rfl rfl ?_
      refine l_nil ?_
      refine g_block ?_
      refine g_loopk (X := Int × Option Addr × Nat × List LV × List (List Int) × Int) [(0, _), (1, _), (2, _), (7, _), (9, _), (10, _), (13, _), (58, _), (59, _), (60, _), (61, _), (64, _), (65, _), (66, _), (67, _), (68, _), (69, _), (70, _), (118, _), (119, _), (120, _), (121, _), (122, _), (123, _), (124, _), (125, _), (126, _)] (.cons rfl (.cons rfl (.cons rfl (.cons rfl (.cons rfl (.cons rfl (.cons rfl (.cons rfl (.cons rfl (.cons rfl (.cons rfl (.cons rfl (.cons rfl (.cons rfl (.cons rfl (.cons rfl (.cons rfl (.cons rfl (.cons rfl (.cons rfl (.cons rfl (.cons rfl (.cons rfl (.cons rfl (.cons rfl (.cons rfl (.cons rfl (.nil)))))))))))))))))))))))))))) (fun z => 0 ≤ z.1 ∧ z.1 ≤ ss.length ∧ delN dp Ps lost Ss z.1.toNat = (z.2.2.2.2.1, z.2.2.2.2.2) ∧ z.2.2.2.1.length = z.2.2.2.2.1.length ∧ z.2.2.2.2.1.length ≤ dp ∧ MsRd w0 F wd z.2.2.2.1 z.2.2.2.2.1 ∧ 0 ≤ z.2.2.2.2.2 ∧ z.2.2.2.2.2 ≤ lost + z.1) (fun z => (ss.length - z.1).toNat) (fun z => [(11, .slice z.2.1 z.2.2.2.1.length z.2.2.1), (12, .int .i64 z.2.2.2.2.2), (17, .int .i64 z.1)]) (fun z => Own 29 1 (.slice sa ss.length sc) ss.length (ss.map lvV) :: Que 29 z.2.1 z.2.2.2.1.length z.2.2.1 (z.2.2.2.1.map lvV) :: Blk b (.cells [Value.slice (some ⟨g, 0, none⟩) 320 c].toArray 76 (0, 0)) :: Own 33 1 (.slice (some ⟨g, 0, none⟩) 320 c) 320 (ints .u32 W2) :: F) ((0, wa, wc, ws, Ps, lost)) (⟨by simp only; omega, by simp only; omega, rfl, hwl, by simp only; omega, hwr, l0, by simp only; omega⟩) (.cons rfl (.cons rfl (.cons rfl .nil))) (fun w hw => SPI.holds hw) ?_
      rintro ⟨k, aR, cR, wR, TR, lR⟩ ⟨k0, k1, hdl, hlen, hle, hrd, l0R, l1R⟩ ihk
      dsimp only [List.cons_append, List.nil_append] at ihk ⊢
      simp only at k0 k1 hdl hlen hle hrd l0R l1R
      refine g_seq ?_
      refine g_seq ?_
      refine g_region ?_
      refine l_move rfl rfl ?_
      refine l_move rfl rfl ?_
      refine l_len rfl Try.underlying40 rfl ?_
      refine l_lss rfl rfl rfl ?_
      refine l_nil ?_
      refine g_cond rfl ?_ ?_
      · intro hbr
        have hbr := of_decide_eq_true hbr
        refine g_skip ?_
        refine g_seq ?_
        refine g_block ?_
        refine g_seq ?_
        refine g_region ?_
        refine l_move rfl rfl ?_
        refine l_len rfl Try.underlying40 rfl ?_
        refine l_move rfl rfl ?_
        refine l_lss rfl rfl rfl ?_
        refine l_nil ?_
        refine g_cond rfl ?_ ?_
        · intro hbr
          have hbr := of_decide_eq_true hbr
          refine g_region ?_
          refine l_move rfl rfl ?_
          refine l_move rfl rfl ?_
          refine l_move rfl rfl ?_
          obtain ⟨gs, rfl⟩ := hsa.resolve_left (by omega)
          have hk1 := hsr k.toNat (by omega)
          refine l_ixs rfl Try.underlying40 Try.sizeOf29 rfl rfl (by omega) (by omega) ?_
          refine l_loadc (v := lvV (lat ss k.toNat)) rfl Try.isAgg29 rfl (own_cell (g := gs) (E := 29) (n := ss.length) (cap := sc) (i := k.toNat) (lat_get (by omega))) ?_
          refine l_buildSlice rfl Try.underlying40 Try.sizeOf29 Try.zeroValue29 rfl rfl rfl rfl rfl rfl ?_; intro b142
          refine l_append_que 2 (by_ := 24) (u := lvV (lat ss k.toNat)) rfl Try.underlying40 Try.type29 rfl rfl rfl rfl rfl rfl rfl ⟨rfl, .inl ⟨_, _, _, rfl, .own (mem_getO 0 rfl)⟩⟩ rfl (by omega) (by simp only [maxLen]; omega) (fun _ _ => rfl) ?_; intro a143 c143 hn143
          rw [show wR.map lvV ++ [lvV (lat ss k.toNat)] = (wR ++ [lat ss k.toNat]).map lvV by simp, show wR.length + 1 = (wR ++ [lat ss k.toNat]).length by simp]
          refine l_assign rfl rfl ?_
          refine l_nil ?_
          refine g_inBlock ?_
          refine g_region ?_
          refine l_move rfl rfl ?_
          first | refine l_add rfl rfl rfl (w_i64 (by omega) (by omega)) ?_ | refine l_addw rfl rfl rfl ?_
          refine l_assign rfl rfl ?_
          refine l_nil ?_
          (first | exact g_againi (ihk (k + 1, a143, c143, wR ++ [lat ss k.toNat], TR ++ [tat Ss k.toNat], lR) ⟨by simp only; omega, by simp only; omega, by rw [show (k + 1).toNat = k.toNat + 1 by omega]; exact delN_put (R := TR) (l := lR) hdl (by omega), by simp only [List.length_append, List.length_singleton]; omega, by simp only [List.length_append, List.length_singleton]; omega, hrd.snoc hlen hk1.1 hk1.2.1 hk1.2.2, l0R, by simp only; omega⟩ (by simp only; omega)) (.cons rfl (.cons rfl (.cons rfl (.cons rfl (.cons rfl (.cons rfl (.cons rfl (.cons rfl (.cons rfl (.cons rfl (.cons rfl (.cons rfl (.cons rfl (.cons rfl (.cons rfl (.cons rfl (.cons rfl (.cons rfl (.cons rfl (.cons rfl (.cons rfl (.cons rfl (.cons rfl (.cons rfl (.cons rfl (.cons rfl (.cons rfl (.cons rfl (.cons rfl (.cons rfl (.nil))))))))))))))))))))))))))))))) | exact g_againi (ihk (k + 1, aR, cR, wR, TR, lR + 1) ⟨by simp only; omega, by simp only; omega, by rw [show (k + 1).toNat = k.toNat + 1 by omega]; exact delN_lost (R := TR) (l := lR) hdl (by omega) (by omega), hlen, hle, hrd, by simp only; omega, by simp only; omega⟩ (by simp only; omega)) (.cons rfl (.cons rfl (.cons rfl (.cons rfl (.cons rfl (.cons rfl (.cons rfl (.cons rfl (.cons rfl (.cons rfl (.cons rfl (.cons rfl (.cons rfl (.cons rfl (.cons rfl (.cons rfl (.cons rfl (.cons rfl (.cons rfl (.cons rfl (.cons rfl (.cons rfl (.cons rfl (.cons rfl (.cons rfl (.cons rfl (.cons rfl (.cons rfl (.cons rfl (.cons rfl (.nil))))))))))))))))))))))))))))))))
        intro hbr
        have hbr := of_decide_eq_false hbr
        refine g_region ?_
        refine l_move rfl rfl ?_
        first | refine l_add rfl rfl rfl (w_i64 (by omega) (by omega)) ?_ | refine l_addw rfl rfl rfl ?_
        refine l_assign rfl rfl ?_
        refine l_nil ?_
        refine g_inBlock ?_
        refine g_region ?_
        refine l_move rfl rfl ?_
        first | refine l_add rfl rfl rfl (w_i64 (by omega) (by omega)) ?_ | refine l_addw rfl rfl rfl ?_
        refine l_assign rfl rfl ?_
        refine l_nil ?_
        (first | exact g_againi (ihk (k + 1, a143, c143, wR ++ [lat ss k.toNat], TR ++ [tat Ss k.toNat], lR) ⟨by simp only; omega, by simp only; omega, by rw [show (k + 1).toNat = k.toNat + 1 by omega]; exact delN_put (R := TR) (l := lR) hdl (by omega), by simp only [List.length_append, List.length_singleton]; omega, by simp only [List.length_append, List.length_singleton]; omega, hrd.snoc hlen hk1.1 hk1.2.1 hk1.2.2, l0R, by simp only; omega⟩ (by simp only; omega)) (.cons rfl (.cons rfl (.cons rfl (.cons rfl (.cons rfl (.cons rfl (.cons rfl (.cons rfl (.cons rfl (.cons rfl (.cons rfl (.cons rfl (.cons rfl (.cons rfl (.cons rfl (.cons rfl (.cons rfl (.cons rfl (.cons rfl (.cons rfl (.cons rfl (.cons rfl (.cons rfl (.cons rfl (.cons rfl (.cons rfl (.cons rfl (.cons rfl (.cons rfl (.cons rfl (.nil))))))))))))))))))))))))))))))) | exact g_againi (ihk (k + 1, aR, cR, wR, TR, lR + 1) ⟨by simp only; omega, by simp only; omega, by rw [show (k + 1).toNat = k.toNat + 1 by omega]; exact delN_lost (R := TR) (l := lR) hdl (by omega) (by omega), hlen, hle, hrd, by simp only; omega, by simp only; omega⟩ (by simp only; omega)) (.cons rfl (.cons rfl (.cons rfl (.cons rfl (.cons rfl (.cons rfl (.cons rfl (.cons rfl (.cons rfl (.cons rfl (.cons rfl (.cons rfl (.cons rfl (.cons rfl (.cons rfl (.cons rfl (.cons rfl (.cons rfl (.cons rfl (.cons rfl (.cons rfl (.cons rfl (.cons rfl (.cons rfl (.cons rfl (.cons rfl (.cons rfl (.cons rfl (.cons rfl (.cons rfl (.nil))))))))))))))))))))))))))))))))
      intro hbr
      have hbr := of_decide_eq_false hbr
      refine g_exit rfl ?_
      obtain rfl : k = ss.length := by omega
      rw [Int.toNat_natCast, hsl, hdl0] at hdl
      obtain ⟨rfl, rfl⟩ : R = TR ∧ l9 = lR := ⟨congrArg Prod.fst hdl, congrArg Prod.snd hdl⟩
      refine g_region ?_
      refine l_own_nil 29 1 ?_
      refine gl_heap (F' := Own 29 1 (.slice none ([] : List LV).length 0) ([] : List LV).length (([] : List LV).map lvV) :: Que 29 aR wR.length cR (wR.map lvV) :: Blk b (.cells [Value.slice (some ⟨g, 0, none⟩) 320 c].toArray 76 (0, 0)) :: Own 33 1 (.slice (some ⟨g, 0, none⟩) 320 c) 320 (ints .u32 W2) :: F) (fun w hw => (SPI.holds hw : Holds w0 (Own 29 1 (.slice none 0 0) 0 [] :: Que 29 aR wR.length cR (wR.map lvV) :: Blk b (.cells [Value.slice (some ⟨g, 0, none⟩) 320 c].toArray 76 (0, 0)) :: Own 33 1 (.slice (some ⟨g, 0, none⟩) 320 c) 320 (ints .u32 W2) :: F) w)) ?_
      refine l_assign rfl rfl ?_
      refine l_nil ?_
      refine g_inBlock ?_
      (first | exact g_againi (joinJ ⟨i, W, Ss, Ps, sa, sc, ss, wa, wc, ws, lost⟩ ⟨hI.same hQ, rfl⟩) (.cons rfl (.cons rfl (.cons rfl (.cons rfl (.cons rfl (.cons rfl (.cons rfl (.cons rfl (.cons rfl (.cons rfl (.cons rfl (.cons rfl (.cons rfl (.nil)))))))))))))) | exact g_againi (joinJ ⟨i, W2, Ss ++ [M], Ps, some ⟨g117, 0, none⟩, c117, ss ++ [(LV.mk am nm cm)], wa, wc, ws, lost⟩ ⟨hI.put (hpx3 hb109) o1 (by simp only; omega) (by simp only; omega) ⟨_, rfl⟩, rfl⟩) (.cons rfl (.cons rfl (.cons rfl (.cons rfl (.cons rfl (.cons rfl (.cons rfl (.cons rfl (.cons rfl (.cons rfl (.cons rfl (.cons rfl (.cons rfl (.nil)))))))))))))) | exact g_againi (joinJ ⟨i, W2, Ss, Ps, sa, sc, ss, wa, wc, ws, lost⟩ ⟨hI.same (hpx4 hb109), rfl⟩) (.cons rfl (.cons rfl (.cons rfl (.cons rfl (.cons rfl (.cons rfl (.cons rfl (.cons rfl (.cons rfl (.cons rfl (.cons rfl (.cons rfl (.cons rfl (.nil)))))))))))))) | exact g_againi (joinJ ⟨i, W2, [], R, none, 0, [], aR, cR, wR, l9⟩ ⟨hI.del hQ2 hlen hrd l0R (by omega), rfl⟩) (.cons rfl (.cons rfl (.cons rfl (.cons rfl (.cons rfl (.cons rfl (.cons rfl (.cons rfl (.cons rfl (.cons rfl (.cons rfl (.cons rfl (.cons rfl (.nil)))))))))))))) | exact g_againi (joinJ ⟨i, W3, Ss, Ps.drop 1, sa, sc, ss, some ⟨gw, o192, none⟩, wc - (1 : Int).toNat, ws.drop 1, lost⟩ ⟨hI.take (hTk.1 hth), rfl⟩) (.cons rfl (.cons rfl (.cons rfl (.cons rfl (.cons rfl (.cons rfl (.cons rfl (.cons rfl (.cons rfl (.cons rfl (.cons rfl (.cons rfl (.cons rfl (.nil)))))))))))))))
    intro hbr
    have hbr := of_decide_eq_false hbr
    refine g_seq ?_
    refine g_region ?_
    refine l_eql rfl rfl rfl ?_
    refine l_assign rfl rfl ?_
    refine l_nil ?_
    refine g_cond rfl ?_ ?_
    · intro hbr
      have hbr := of_decide_eq_true hbr
      refine g_seq ?_
      refine g_region ?_
      refine l_move rfl rfl ?_
      refine l_move rfl rfl ?_
      refine l_move rfl rfl ?_
      refine l_move rfl rfl ?_
      refine l_fronto g ?_
      refine l_frontb b ?_
      refine l_call rfl Try.call10 rfl (look_in _ _ wd dp w1 w2 d1 d2 b g 320 c W hQ.len hc (by omega) hQ.u (pQ wd dp) (by unfold inR; omega)) ?_; rintro _ _ ⟨al, ql, cl, T, th, e2, rfl, rfl, hTl, hal, hQ2⟩
      obtain ⟨rfl, hthd, hLk⟩ := hQ.lkx hQ2
      refine l_move rfl rfl ?_
      refine l_extract rfl rfl rfl ?_
      refine l_extract rfl rfl rfl ?_
      refine l_extract rfl rfl rfl ?_
      refine l_assign rfl rfl ?_
      refine l_assign rfl rfl ?_
      refine l_assign rfl rfl ?_
      refine l_nil ?_
      refine g_seq ?_
      refine g_region ?_
      refine l_move rfl rfl ?_
      refine l_move rfl rfl ?_
      refine l_move rfl rfl ?_
      refine l_move rfl rfl ?_
      refine l_fronto g ?_
      refine l_frontb b ?_
      refine l_call rfl Try.call11 rfl (takeq_in _ _ wd dp w1 w2 d1 d2 b g 320 c W hQ.len hc (by omega) hQ.u (pQ wd dp) (by unfold inR; omega)) ?_; rintro _ _ ⟨ok3, e3, W3, rfl, hl3, rfl, hQ3⟩
      obtain ⟨rfl, hok3, hTk⟩ := hQ.tkx (by omega) w2 d2 hpw.2 hQ3
      rw [hthd] at hok3
      subst hok3
      rw [hwl.symm] at hthd
      have hth2 : decide ((ws.length : Int) > 0) = th := by rw [← hthd]; exact decide_eq_decide.2 (by omega)
      refine l_move rfl rfl ?_
      refine l_extract rfl rfl rfl ?_
      refine l_extract rfl rfl rfl ?_
      refine l_assign rfl rfl ?_
      refine l_assign rfl rfl ?_
      refine l_nil ?_
      refine g_seq ?_
      refine g_seq ?_
      refine g_region ?_
      refine l_move rfl rfl ?_
      refine l_neq rfl rfl rfl ?_
      refine l_move rfl rfl ?_
      refine l_split 167 rfl ?_ ?_
      · intro hbr
        have hbr := of_decide_eq_true hbr
        (exfalso; first | omega | (simp only [hpx5] at hbr; simp at hbr; done) | (simp only [hth2] at hbr; simp at hbr; done))
      intro hbr
      have hbr := of_decide_eq_false hbr
      refine l_guard_yes rfl rfl ?_
      refine l_move rfl rfl ?_
      refine l_guard_yes rfl rfl ?_
      refine l_neq rfl rfl rfl ?_
      refine l_pick_f rfl rfl rfl ?_
      refine l_move rfl rfl ?_
      refine l_split 171 rfl ?_ ?_
      · intro hbr
        have hbr := of_decide_eq_true hbr
        (exfalso; first | omega | (simp only [hpx5] at hbr; simp at hbr; done) | (simp only [hth2] at hbr; simp at hbr; done))
      intro hbr
      have hbr := of_decide_eq_false hbr
      refine l_guard_yes rfl rfl ?_
      refine l_move rfl rfl ?_
      refine l_guard_yes rfl rfl ?_
      refine l_move rfl rfl ?_
      refine l_guard_yes rfl rfl ?_
      refine l_len rfl Try.underlying40 rfl ?_
      refine l_guard_yes rfl rfl ?_
      refine l_gtr rfl rfl rfl ?_
      refine l_guard_yes rfl rfl ?_
      refine l_neqb rfl Try.underlying4 rfl rfl ?_
      refine l_pick_f rfl rfl rfl ?_
      refine l_move rfl rfl ?_
      refine l_split 178 rfl ?_ ?_
      · intro hbr
        first | (exfalso; simp at hbr; done) | (exfalso; simp at hbr; omega) | (exfalso; first | omega | (simp only [hpx5] at hbr; simp at hbr; done) | (simp only [hth2] at hbr; simp at hbr; done))
      intro hbr
      have hb178 := hbr
      refine l_guard_yes rfl rfl ?_
      refine l_move rfl rfl ?_
      refine l_guard_yes rfl rfl ?_
      refine l_move rfl rfl ?_
      refine l_guard_yes rfl rfl ?_
      refine l_neqb rfl Try.underlying4 rfl rfl ?_
      refine l_pick_f rfl rfl rfl ?_
      refine l_nil ?_
      refine g_cond rfl ?_ ?_
      · intro hbr
        first | (exfalso; simp at hbr; done) | (exfalso; simp at hbr; omega) | (exfalso; first | omega | (simp only [hpx5] at hbr; simp at hbr; done) | (simp only [hth2] at hbr; simp at hbr; done))
      intro hbr
      have hb182 := hbr
      refine g_skip ?_
      refine g_seq ?_
      refine g_seq ?_
      refine g_region ?_
      refine l_move rfl rfl ?_
      refine l_not rfl rfl ?_
      refine l_nil ?_
      refine g_cond rfl ?_ ?_
      · intro hbr
        have hb184 := hbr
        refine g_exit rfl ?_
        refine g_region ?_
        refine l_move rfl rfl ?_
        first | refine l_add rfl rfl rfl (w_i64 (by omega) (by omega)) ?_ | refine l_addw rfl rfl rfl ?_
        refine l_assign rfl rfl ?_
        refine l_nil ?_
        (first | exact g_againi (ih ⟨i + 1, W, Ss, Ps, sa, sc, ss, wa, wc, ws, lost⟩ (hI.next (by simp only; omega) (by omega)) (by simp only; omega)) (.cons rfl (.cons rfl (.cons rfl (.cons rfl (.cons rfl (.cons rfl (.cons rfl (.cons rfl (.cons rfl (.nil)))))))))) | exact g_againi (ih ⟨i + 1, W3, Ss, Ps, sa, sc, ss, wa, wc, ws, lost⟩ ((hI.same (hTk.2 (by simpa using hb184))).next (by simp only; omega) (by omega)) (by simp only; omega)) (.cons rfl (.cons rfl (.cons rfl (.cons rfl (.cons rfl (.cons rfl (.cons rfl (.cons rfl (.cons rfl (.nil)))))))))))
      intro hbr
      have hb184 := hbr
      refine g_skip ?_
      refine g_seq ?_
      refine g_seq ?_
      refine g_region ?_
      have hth : th = true := by simpa using hb184
      have hT0 := (hLk hth).2
      have hT1 := (hLk hth).1
      refine l_fact (Que.cases (by first | exact mem_getO 0 rfl | exact mem_getO 1 rfl | exact mem_getO 2 rfl | exact mem_getO 3 rfl | exact mem_getO 4 rfl | exact mem_getO 5 rfl | exact mem_getO 6 rfl | exact mem_getO 7 rfl)) ?_
      rintro ⟨hq1, hq2, hq3⟩
      obtain ⟨gw, ow, rfl⟩ := hq3.resolve_left (by omega)
      have hw0 := hwr 0 (by omega)
      have hTU := ((hQ.ps d1).2.1 0 hT1).2
      rw [← hT0] at hTU
      obtain rfl : ql = (lat ws 0).n := by rw [← hTl, hT0]; exact hw0.1.1
      refine l_move rfl rfl ?_
      refine l_move rfl rfl ?_
      refine l_ixs rfl Try.underlying40 Try.sizeOf29 rfl rfl (by omega) (by omega) ?_
      refine l_loadc (v := .slice (lat ws 0).a (lat ws 0).n (lat ws 0).c) rfl Try.isAgg29 rfl ((RowAt.que (show Que 29 (some ⟨gw, ow, none⟩) ws.length wc (ws.map lvV) ∈ _ from (by first | exact mem_getO 0 rfl | exact mem_getO 1 rfl | exact mem_getO 2 rfl | exact mem_getO 3 rfl | exact mem_getO 4 rfl | exact mem_getO 5 rfl | exact mem_getO 6 rfl | exact mem_getO 7 rfl))).cell (j := 0) (lat_get (by omega))) ?_
      refine l_call rfl Try.call15 rfl (same_words _ _ al (lat ws 0).a (lat ws 0).n cl (lat ws 0).c T (IR.own hTl (by first | exact mem_getO 0 rfl | exact mem_getO 1 rfl | exact mem_getO 2 rfl | exact mem_getO 3 rfl | exact mem_getO 4 rfl | exact mem_getO 5 rfl) hal) (by rw [hT0]; exact hw0.1.ex) hTU (by omega)) ?_; rintro _ _ ⟨rfl, rfl⟩
      refine l_not rfl rfl ?_
      refine l_nil ?_
      refine g_cond_f rfl ?_
      refine g_skip ?_
      refine g_region ?_
      refine l_move rfl rfl ?_
      refine l_slice_lo rfl Try.underlying40 Try.sizeOf29 rfl rfl (by omega) (by omega) (by omega) ?_; intro o192 ho192
      rw [show ws.length - (1 : Int).toNat = (ws.drop 1).length by rw [List.length_drop]; rfl]
      refine gl_heap (F' := Que 29 (some ⟨gw, o192, none⟩) (ws.drop 1).length (wc - (1 : Int).toNat) ((ws.drop 1).map lvV) :: Own 29 1 (.slice sa ss.length sc) ss.length (ss.map lvV) :: Blk b (.cells [Value.slice (some ⟨g, 0, none⟩) 320 c].toArray 76 (0, 0)) :: Own 33 1 (.slice (some ⟨g, 0, none⟩) 320 c) 320 (ints .u32 W3) :: F) (fun w hw => que_drop (SPI.holds (F' := Que 29 (some ⟨gw, ow, none⟩) ws.length wc (ws.map lvV) :: Own 29 1 (.slice sa ss.length sc) ss.length (ss.map lvV) :: Blk b (.cells [Value.slice (some ⟨g, 0, none⟩) 320 c].toArray 76 (0, 0)) :: Own 33 1 (.slice (some ⟨g, 0, none⟩) 320 c) 320 (ints .u32 W3) :: F) hw) (by omega) ho192) ?_
      refine l_assign rfl rfl ?_
      refine l_nil ?_
      refine g_inBlock ?_
      (first | exact g_againi (joinJ ⟨i, W, Ss, Ps, sa, sc, ss, wa, wc, ws, lost⟩ ⟨hI.same hQ, rfl⟩) (.cons rfl (.cons rfl (.cons rfl (.cons rfl (.cons rfl (.cons rfl (.cons rfl (.cons rfl (.cons rfl (.cons rfl (.cons rfl (.cons rfl (.cons rfl (.nil)))))))))))))) | exact g_againi (joinJ ⟨i, W2, Ss ++ [M], Ps, some ⟨g117, 0, none⟩, c117, ss ++ [(LV.mk am nm cm)], wa, wc, ws, lost⟩ ⟨hI.put (hpx3 hb109) o1 (by simp only; omega) (by simp only; omega) ⟨_, rfl⟩, rfl⟩) (.cons rfl (.cons rfl (.cons rfl (.cons rfl (.cons rfl (.cons rfl (.cons rfl (.cons rfl (.cons rfl (.cons rfl (.cons rfl (.cons rfl (.cons rfl (.nil)))))))))))))) | exact g_againi (joinJ ⟨i, W2, Ss, Ps, sa, sc, ss, wa, wc, ws, lost⟩ ⟨hI.same (hpx4 hb109), rfl⟩) (.cons rfl (.cons rfl (.cons rfl (.cons rfl (.cons rfl (.cons rfl (.cons rfl (.cons rfl (.cons rfl (.cons rfl (.cons rfl (.cons rfl (.cons rfl (.nil)))))))))))))) | exact g_againi (joinJ ⟨i, W2, [], R, none, 0, [], aR, cR, wR, l9⟩ ⟨hI.del hQ2 hlen hrd l0R (by omega), rfl⟩) (.cons rfl (.cons rfl (.cons rfl (.cons rfl (.cons rfl (.cons rfl (.cons rfl (.cons rfl (.cons rfl (.cons rfl (.cons rfl (.cons rfl (.cons rfl (.nil)))))))))))))) | exact g_againi (joinJ ⟨i, W3, Ss, Ps.drop 1, sa, sc, ss, some ⟨gw, o192, none⟩, wc - (1 : Int).toNat, ws.drop 1, lost⟩ ⟨hI.take (hTk.1 hth), rfl⟩) (.cons rfl (.cons rfl (.cons rfl (.cons rfl (.cons rfl (.cons rfl (.cons rfl (.cons rfl (.cons rfl (.cons rfl (.cons rfl (.cons rfl (.cons rfl (.nil)))))))))))))))
    intro hbr
    have hbr := of_decide_eq_false hbr
    refine g_skip ?_
    refine g_inBlock ?_
    (first | exact g_againi (joinJ ⟨i, W, Ss, Ps, sa, sc, ss, wa, wc, ws, lost⟩ ⟨hI.same hQ, rfl⟩) (.cons rfl (.cons rfl (.cons rfl (.cons rfl (.cons rfl (.cons rfl (.cons rfl (.cons rfl (.cons rfl (.cons rfl (.cons rfl (.cons rfl (.cons rfl (.nil)))))))))))))) | exact g_againi (joinJ ⟨i, W2, Ss ++ [M], Ps, some ⟨g117, 0, none⟩, c117, ss ++ [(LV.mk am nm cm)], wa, wc, ws, lost⟩ ⟨hI.put (hpx3 hb109) o1 (by simp only; omega) (by simp only; omega) ⟨_, rfl⟩, rfl⟩) (.cons rfl (.cons rfl (.cons rfl (.cons rfl (.cons rfl (.cons rfl (.cons rfl (.cons rfl (.cons rfl (.cons rfl (.cons rfl (.cons rfl (.cons rfl (.nil)))))))))))))) | exact g_againi (joinJ ⟨i, W2, Ss, Ps, sa, sc, ss, wa, wc, ws, lost⟩ ⟨hI.same (hpx4 hb109), rfl⟩) (.cons rfl (.cons rfl (.cons rfl (.cons rfl (.cons rfl (.cons rfl (.cons rfl (.cons rfl (.cons rfl (.cons rfl (.cons rfl (.cons rfl (.cons rfl (.nil)))))))))))))) | exact g_againi (joinJ ⟨i, W2, [], R, none, 0, [], aR, cR, wR, l9⟩ ⟨hI.del hQ2 hlen hrd l0R (by omega), rfl⟩) (.cons rfl (.cons rfl (.cons rfl (.cons rfl (.cons rfl (.cons rfl (.cons rfl (.cons rfl (.cons rfl (.cons rfl (.cons rfl (.cons rfl (.cons rfl (.nil)))))))))))))) | exact g_againi (joinJ ⟨i, W3, Ss, Ps.drop 1, sa, sc, ss, some ⟨gw, o192, none⟩, wc - (1 : Int).toNat, ws.drop 1, lost⟩ ⟨hI.take (hTk.1 hth), rfl⟩) (.cons rfl (.cons rfl (.cons rfl (.cons rfl (.cons rfl (.cons rfl (.cons rfl (.cons rfl (.cons rfl (.cons rfl (.cons rfl (.cons rfl (.cons rfl (.nil)))))))))))))))
  intro hbr
  have hbr := of_decide_eq_false hbr
  refine g_exit rfl ?_
  refine g_seq ?_
  refine g_region ?_
  refine l_assign rfl rfl ?_
  refine l_nil ?_
  refine g_ret Try.func4 rfl (.tmp rfl .nil) ?_
  exact Gives.mki ⟨rfl, rfl⟩
end Go.Proofs.Ytecibldbnekgbaa.Fw
