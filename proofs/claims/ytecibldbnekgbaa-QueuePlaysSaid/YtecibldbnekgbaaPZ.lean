import Derived.Test.YtecibldbnekgbaaPY
namespace Go.Proofs.Ytecibldbnekgbaa.Fw
open Go Go.Proofs
set_option linter.unusedVariables false
set_option linter.unusedSimpArgs false
set_option maxRecDepth 10000
theorem fa_54_1 (a : Addr) (w : World) : (Instr.fieldAt 54 (.pointer (some a)) 1).run Try.prog w = .ok (.pointer (some (a.add 1))) w := by
  simp [Instr.fieldAt, Try.runUnderlying54, Instr.sureAddr, fieldPlace, Try.sizeOf3, Sem.run_bind, Sem.run_pure]
theorem fa_54_2 (a : Addr) (w : World) : (Instr.fieldAt 54 (.pointer (some a)) 2).run Try.prog w = .ok (.pointer (some (a.add 2))) w := by
  simp [Instr.fieldAt, Try.runUnderlying54, Instr.sureAddr, fieldPlace, Try.sizeOf3, Sem.run_bind, Sem.run_pure]
theorem fa_54_3 (a : Addr) (w : World) : (Instr.fieldAt 54 (.pointer (some a)) 3).run Try.prog w = .ok (.pointer (some (a.add 3))) w := by
  simp [Instr.fieldAt, Try.runUnderlying54, Instr.sureAddr, fieldPlace, Try.sizeOf3, Sem.run_bind, Sem.run_pure]
theorem fa_54_0 (a : Addr) (w : World) : (Instr.fieldAt 54 (.pointer (some a)) 0).run Try.prog w = .ok (.pointer (some (a.add 0))) w := by
  simp [Instr.fieldAt, Try.runUnderlying54, Instr.sureAddr, fieldPlace, Try.sizeOf3, Sem.run_bind, Sem.run_pure]
theorem fa_54_5 (a : Addr) (w : World) : (Instr.fieldAt 54 (.pointer (some a)) 5).run Try.prog w = .ok (.pointer (some (a.add 5))) w := by
  simp [Instr.fieldAt, Try.runUnderlying54, Instr.sureAddr, fieldPlace, Try.sizeOf29, Sem.run_bind, Sem.run_pure]
theorem fa_54_4 (a : Addr) (w : World) : (Instr.fieldAt 54 (.pointer (some a)) 4).run Try.prog w = .ok (.pointer (some (a.add 4))) w := by
  simp [Instr.fieldAt, Try.runUnderlying54, Instr.sureAddr, fieldPlace, Try.sizeOf52, Sem.run_bind, Sem.run_pure]
theorem StgdQ.one {W : List Int} {a : Int} {wd dp : Nat} {k e k' e' : Int} (h : StgdQ W a wd dp k e) (h' : StgdQ W a wd dp k' e') : k = k' ∧ e = e' := by
  rcases h with ⟨x1, x2, x3⟩ | ⟨x1, Ts, x2, x3⟩ <;> rcases h' with ⟨y1, y2, y3⟩ | ⟨y1, Ts', y2, y3⟩
  · exact ⟨x2.trans y2.symm, x1.trans y1.symm⟩
  · exact absurd (RowR.same y2 x3).2 (by simp)
  · exact absurd (RowR.same x2 y3).2 (by simp)
  · rw [(RowR.same x2 y2).1] at y3
    exact ⟨x3.trans y3.symm, x1.trans y1.symm⟩
theorem PutQ.one {W M : List Int} {a : Int} {wd dp : Nat} {ok ok' : Bool} {e e' : Int} {W2 W2' : List Int} (h : PutQ W a wd dp M ok e W2) (h' : PutQ W a wd dp M ok' e' W2') : ok = ok' ∧ e = e' ∧ W2 = W2' := by
  rcases h with ⟨x1, x2, x3⟩ | ⟨x1, x2, Ts, x3, x4, x5⟩ <;> rcases h' with ⟨y1, y2, y3⟩ | ⟨y1, y2, Ts', y3, y4, y5⟩
  · refine ⟨x1.trans y1.symm, ?_, x2.trans y2.symm⟩
    rcases x3 with ⟨x3, x4⟩ | ⟨x3, Ts, x4, x5⟩ <;> rcases y3 with ⟨y3, y4⟩ | ⟨y3, Ts', y4, y5⟩
    · exact x3.trans y3.symm
    · exact absurd (RowR.same y4 x4).2 (by simp)
    · exact absurd (RowR.same x4 y4).2 (by simp)
    · exact x3.trans y3.symm
  · exfalso
    rcases x3 with ⟨x3, x4⟩ | ⟨x3, Ts, x4, x5⟩
    · exact absurd (RowR.same y3 x4).2 (by simp)
    · have h9 := (RowR.same y3 x4).1
      rw [h9] at x5
      omega
  · exfalso
    rcases y3 with ⟨y3, y4⟩ | ⟨y3, Ts', y4, y5⟩
    · exact absurd (RowR.same x3 y4).2 (by simp)
    · have h9 := (RowR.same x3 y4).1
      rw [h9] at y5
      omega
  · have h9 := (RowR.same x3 y3).1
    rw [h9] at y5
    exact ⟨x1.trans y1.symm, x2.trans y2.symm, x5.trans y5.symm⟩
theorem TakQ.one {W : List Int} {a : Int} {wd dp : Nat} {ok ok' : Bool} {e e' : Int} {W2 W2' : List Int} (h : TakQ W a wd dp ok e W2) (h' : TakQ W a wd dp ok' e' W2') : ok = ok' ∧ e = e' ∧ W2 = W2' := by
  rcases h with ⟨x1, x2, x3⟩ | ⟨x1, x2, Ts, x3, x4, x5⟩ <;> rcases h' with ⟨y1, y2, y3⟩ | ⟨y1, y2, Ts', y3, y4, y5⟩
  · refine ⟨x1.trans y1.symm, ?_, x2.trans y2.symm⟩
    rcases x3 with ⟨x3, Tx, x4⟩ | ⟨x3, x4⟩ <;> rcases y3 with ⟨y3, Ty, y4⟩ | ⟨y3, y4⟩
    · exact x3.trans y3.symm
    · exact absurd (PrtR.same y4 x4).2 (by simp)
    · exact absurd (PrtR.same x4 y4).2 (by simp)
    · exact x3.trans y3.symm
  · exfalso
    rcases x3 with ⟨x3, Tx, x4⟩ | ⟨x3, x4⟩
    · exact absurd (PrtR.same y3 x4).2 (by simp)
    · have h9 := (PrtR.same y3 x4).1
      rw [← h9] at y4
      simp at y4
  · exfalso
    rcases y3 with ⟨y3, Tx, y4⟩ | ⟨y3, y4⟩
    · exact absurd (PrtR.same x3 y4).2 (by simp)
    · have h9 := (PrtR.same x3 y4).1
      rw [← h9] at x4
      simp at x4
  · have h9 := (PrtR.same x3 y3).1
    rw [h9] at y5
    exact ⟨x1.trans y1.symm, x2.trans y2.symm, x5.trans y5.symm⟩
theorem LookQ.one {W : List Int} {a : Int} {wd dp : Nat} {th th' : Bool} {e e' : Int} {T T' : List Int} (h : LookQ W a wd dp T th e) (h' : LookQ W a wd dp T' th' e') : T = T' ∧ th = th' ∧ e = e' := by
  rcases h with ⟨x1, x2, x3⟩ | ⟨x1, x2, Ts, x3, x4, x5⟩ <;> rcases h' with ⟨y1, y2, y3⟩ | ⟨y1, y2, Ts', y3, y4, y5⟩
  · refine ⟨x2.trans y2.symm, x1.trans y1.symm, ?_⟩
    rcases x3 with ⟨x3, Tx, x4⟩ | ⟨x3, x4⟩ <;> rcases y3 with ⟨y3, Ty, y4⟩ | ⟨y3, y4⟩
    · exact x3.trans y3.symm
    · exact absurd (PrtR.same y4 x4).2 (by simp)
    · exact absurd (PrtR.same x4 y4).2 (by simp)
    · exact x3.trans y3.symm
  · exfalso
    rcases x3 with ⟨x3, Tx, x4⟩ | ⟨x3, x4⟩
    · exact absurd (PrtR.same y3 x4).2 (by simp)
    · have h9 := (PrtR.same y3 x4).1
      rw [← h9] at y4
      simp at y4
  · exfalso
    rcases y3 with ⟨y3, Tx, y4⟩ | ⟨y3, y4⟩
    · exact absurd (PrtR.same x3 y4).2 (by simp)
    · have h9 := (PrtR.same x3 y4).1
      rw [← h9] at x4
      simp at x4
  · have h9 := (PrtR.same x3 y3).1
    rw [h9] at y5
    exact ⟨x5.trans y5.symm, x1.trans y1.symm, x2.trans y2.symm⟩
theorem CntQ.one {W : List Int} {a : Int} {wd dp : Nat} {k ls e k' ls' e' : Int} (h : CntQ W a wd dp k ls e) (h' : CntQ W a wd dp k' ls' e') : k = k' ∧ ls = ls' ∧ e = e' := by
  rcases h with ⟨x1, x2, x3, Tx, x4⟩ | ⟨x1, Ts, x2, x3, x4⟩ <;> rcases h' with ⟨y1, y2, y3, Ty, y4⟩ | ⟨y1, Ts', y2, y3, y4⟩
  · exact ⟨x2.trans y2.symm, x3.trans y3.symm, x1.trans y1.symm⟩
  · exact absurd (PrtR.same y2 x4).2 (by simp)
  · exact absurd (PrtR.same x2 y4).2 (by simp)
  · rw [(PrtR.same x2 y2).1] at y3
    exact ⟨x3.trans y3.symm, x4.trans y4.symm, x1.trans y1.symm⟩
theorem LookQ.u {W : List Int} {a : Int} {wd dp : Nat} {th : Bool} {e : Int} {T : List Int} (h : LookQ W a wd dp T th e) (hU : W32s W) : W32s T := by
  rcases h with ⟨_, rfl, _⟩ | ⟨_, _, Ts, h3, h4, h5⟩
  · intro i; simp
  · rw [h5]; exact RowR.u h3.row ((hU.part _ _).drop 3) 0 h4
def PutN (W : List Int) (n : Nat) (a : Int) (wd dp : Nat) (M : List Int) (ok : Bool) (e : Int) (W2 : List Int) : Prop := ((M.length = 0 ∨ wd < M.length) ∧ ok = false ∧ e = 200 ∧ W2 = W) ∨ (¬ (M.length = 0 ∨ wd < M.length) ∧ ¬ inR n a ((1 + dp * (1 + wd) : Nat) : Int) ∧ ok = false ∧ e = 51 ∧ W2 = W) ∨ (¬ (M.length = 0 ∨ wd < M.length) ∧ inR n a ((1 + dp * (1 + wd) : Nat) : Int) ∧ PutQ W a wd dp M ok e W2)
def StgdN (W : List Int) (n : Nat) (a : Int) (wd dp : Nat) (k e : Int) : Prop := (¬ inR n a ((1 + dp * (1 + wd) : Nat) : Int) ∧ k = 0 ∧ e = 51) ∨ (inR n a ((1 + dp * (1 + wd) : Nat) : Int) ∧ StgdQ W a wd dp k e)
def TakN (W : List Int) (n : Nat) (a : Int) (wd dp : Nat) (ok : Bool) (e : Int) (W2 : List Int) : Prop := (¬ inR n a ((3 + dp * (1 + wd) : Nat) : Int) ∧ ok = false ∧ e = 51 ∧ W2 = W) ∨ (inR n a ((3 + dp * (1 + wd) : Nat) : Int) ∧ TakQ W a wd dp ok e W2)
def LookN (W : List Int) (n : Nat) (a : Int) (wd dp : Nat) (T : List Int) (th : Bool) (e : Int) : Prop := (¬ inR n a ((3 + dp * (1 + wd) : Nat) : Int) ∧ T = [] ∧ th = false ∧ e = 51) ∨ (inR n a ((3 + dp * (1 + wd) : Nat) : Int) ∧ LookQ W a wd dp T th e)
def CntN (W : List Int) (n : Nat) (a : Int) (wd dp : Nat) (k ls e : Int) : Prop := (¬ inR n a ((3 + dp * (1 + wd) : Nat) : Int) ∧ k = 0 ∧ ls = 0 ∧ e = 51) ∨ (inR n a ((3 + dp * (1 + wd) : Nat) : Int) ∧ CntQ W a wd dp k ls e)
theorem PutN.one {W M : List Int} {n : Nat} {a : Int} {wd dp : Nat} {ok ok' : Bool} {e e' : Int} {W2 W2' : List Int} (h : PutN W n a wd dp M ok e W2) (h' : PutN W n a wd dp M ok' e' W2') : ok = ok' ∧ e = e' ∧ W2 = W2' := by
  rcases h with ⟨c, x1, x2, x3⟩ | ⟨c, d, x1, x2, x3⟩ | ⟨c, d, x⟩ <;> rcases h' with ⟨c', y1, y2, y3⟩ | ⟨c', d', y1, y2, y3⟩ | ⟨c', d', y⟩ <;> first | exact ⟨x1.trans y1.symm, x2.trans y2.symm, x3.trans y3.symm⟩ | exact x.one y | (exfalso; contradiction)
theorem StgdN.one {W : List Int} {n : Nat} {a : Int} {wd dp : Nat} {k e k' e' : Int} (h : StgdN W n a wd dp k e) (h' : StgdN W n a wd dp k' e') : k = k' ∧ e = e' := by
  rcases h with ⟨c, x1, x2⟩ | ⟨c, x⟩ <;> rcases h' with ⟨c', y1, y2⟩ | ⟨c', y⟩ <;> first | exact ⟨x1.trans y1.symm, x2.trans y2.symm⟩ | exact x.one y | (exfalso; contradiction)
theorem TakN.one {W : List Int} {n : Nat} {a : Int} {wd dp : Nat} {ok ok' : Bool} {e e' : Int} {W2 W2' : List Int} (h : TakN W n a wd dp ok e W2) (h' : TakN W n a wd dp ok' e' W2') : ok = ok' ∧ e = e' ∧ W2 = W2' := by
  rcases h with ⟨c, x1, x2, x3⟩ | ⟨c, x⟩ <;> rcases h' with ⟨c', y1, y2, y3⟩ | ⟨c', y⟩ <;> first | exact ⟨x1.trans y1.symm, x2.trans y2.symm, x3.trans y3.symm⟩ | exact x.one y | (exfalso; contradiction)
theorem LookN.one {W : List Int} {n : Nat} {a : Int} {wd dp : Nat} {th th' : Bool} {e e' : Int} {T T' : List Int} (h : LookN W n a wd dp T th e) (h' : LookN W n a wd dp T' th' e') : T = T' ∧ th = th' ∧ e = e' := by
  rcases h with ⟨c, x1, x2, x3⟩ | ⟨c, x⟩ <;> rcases h' with ⟨c', y1, y2, y3⟩ | ⟨c', y⟩ <;> first | exact ⟨x1.trans y1.symm, x2.trans y2.symm, x3.trans y3.symm⟩ | exact x.one y | (exfalso; contradiction)
theorem CntN.one {W : List Int} {n : Nat} {a : Int} {wd dp : Nat} {k ls e k' ls' e' : Int} (h : CntN W n a wd dp k ls e) (h' : CntN W n a wd dp k' ls' e') : k = k' ∧ ls = ls' ∧ e = e' := by
  rcases h with ⟨c, x1, x2, x3⟩ | ⟨c, x⟩ <;> rcases h' with ⟨c', y1, y2, y3⟩ | ⟨c', y⟩ <;> first | exact ⟨x1.trans y1.symm, x2.trans y2.symm, x3.trans y3.symm⟩ | exact x.one y | (exfalso; contradiction)
theorem LookN.u {W : List Int} {n : Nat} {a : Int} {wd dp : Nat} {th : Bool} {e : Int} {T : List Int} (h : LookN W n a wd dp T th e) (hU : W32s W) : W32s T := by
  rcases h with ⟨_, rfl, _⟩ | ⟨_, h⟩
  · intro i; simp
  · exact h.u hU
theorem PutN.w {n wd dp : Nat} {W W2 M : List Int} {a e : Int} {ok : Bool} (hd : 0 < dp) (hw : wd ≤ 16) (hd2 : dp ≤ 8) (hW : W.length = n) (hU : W32s W) (hM : W32s M) (h : PutN W n a wd dp M ok e W2) : W2.length = n ∧ W32s W2 := by
  rcases h with ⟨c, x1, x2, rfl⟩ | ⟨c, d, x1, x2, rfl⟩ | ⟨c, d, x⟩
  · exact ⟨hW, hU⟩
  · exact ⟨hW, hU⟩
  · have h9 := (PutQ.own hd hw hd2 hW hU d ⟨by omega, hM⟩ x).1
    exact ⟨h9.1, h9.2.1⟩
theorem TakN.w {n wd dp : Nat} {W W2 : List Int} {a e : Int} {ok : Bool} (hd : 0 < dp) (hw : wd ≤ 16) (hd2 : dp ≤ 8) (hW : W.length = n) (hU : W32s W) (h : TakN W n a wd dp ok e W2) : W2.length = n ∧ W32s W2 := by
  rcases h with ⟨c, x1, x2, rfl⟩ | ⟨d, x⟩
  · exact ⟨hW, hU⟩
  · have h9 := (TakQ.own hd hw hd2 hW hU d x).1
    exact ⟨h9.1, h9.2.1⟩
theorem StgR.ok {W : List Int} {a : Int} {wd dp : Nat} {Ts : List (List Int)} (hd : 0 < dp) (hU : W32s W) (h : StgR W a wd dp Ts true) : MsgOk wd Ts ∧ Ts.length ≤ dp := by
  have hb := RowR.bd h hd
  exact ⟨fun j hj => ⟨hb.2.2.2 j hj, RowR.u h ((hU.part _ _).drop 1) j hj⟩, by have := hb.1; have := hb.2.1; omega⟩
theorem PrtR.ok {W : List Int} {a : Int} {wd dp : Nat} {Ts : List (List Int)} (hd : 0 < dp) (hU : W32s W) (h : PrtR W a wd dp Ts true) : MsgOk wd Ts ∧ Ts.length ≤ dp ∧ (W.getD a.toNat 0).toNat < dp := by
  have hb := RowR.bd h.row hd
  exact ⟨fun j hj => ⟨hb.2.2.2 j hj, RowR.u h.row ((hU.part _ _).drop 3) j hj⟩, by have := hb.1; have := hb.2.1; omega, hb.2.2.1⟩
theorem portL_u32 {wd dp first : Nat} {ls : Int} {Ts : List (List Int)} (hd : 0 < dp) (hw : wd ≤ 16) (hd2 : dp ≤ 8) (hf : first < dp) (h0 : 0 ≤ ls) (h1 : ls ≤ 4294967295) (hT : MsgOk wd Ts) (hl : Ts.length ≤ dp) : W32s (portL wd dp first ls Ts Ts.length) := by
  have hf2 : frst Ts.length first < dp := by unfold frst; split <;> omega
  refine layN_u32 hd (by omega) (fun i => ?_) _ fun j hj => ⟨(hT j hj).1.2, (hT j hj).2⟩
  match i with
  | 0 => show 0 ≤ (frst Ts.length first : Int) ∧ (frst Ts.length first : Int) ≤ _; omega
  | 1 => show 0 ≤ (Ts.length : Int) ∧ (Ts.length : Int) ≤ _; omega
  | 2 => exact ⟨h0, h1⟩
  | i + 3 => rw [getD_over (by simp)]; decide
theorem dlW_u {W : List Int} {n wd dp : Nat} {Ss : List (List Int)} {L : List Int} (hd : 0 < dp) (hw : wd ≤ 16) (hd2 : dp ≤ 8) (hW : W.length = n) (hU : W32s W) (hr : ∀ i, i < L.length → inR n (L.getD i 0) ((3 + dp * (1 + wd) : Nat) : Int)) (hf : ∀ i, i < L.length → ∃ Ts, PrtR W (L.getD i 0) wd dp Ts true) (hS : MsgOk wd Ss) : ∀ i, i ≤ L.length → W32s (dlW W wd dp Ss L i)
  | 0, _ => hU
  | i + 1, h => by
    have ih := dlW_u hd hw hd2 hW hU hr hf hS i (by omega)
    have hl := dlW_len hd hW hr hf (fun j hj => (hS j hj).1.2) i (by omega)
    obtain ⟨Ts, hT⟩ := hf i (by omega)
    have h3 := hT.ok hd hU
    have hlb := hU ((L.getD i 0).toNat + 2)
    have h4 := delN_ok (ls := W.getD ((L.getD i 0).toNat + 2) 0) h3.1 h3.2.1 hS hlb.1 hlb.2 Ss.length (Nat.le_refl _)
    rw [hT.eq] at h4
    change MsgOk wd (dlP W wd dp Ss (L.getD i 0)).1 ∧ (dlP W wd dp Ss (L.getD i 0)).1.length ≤ dp ∧ 0 ≤ (dlP W wd dp Ss (L.getD i 0)).2 ∧ (dlP W wd dp Ss (L.getD i 0)).2 ≤ 4294967295 at h4
    have h1 := hr i (by omega)
    unfold inR at h1
    simp only [dlW]
    refine spl_u32 ?_ (portL_u32 hd hw hd2 h3.2.2 h4.2.2.1 h4.2.2.2 h4.1 h4.2.1) ih
    rw [portL_len hd (fun j hj => (h4.1 j hj).1.2)]
    omega
theorem DelA.w {W : List Int} {n : Nat} {st : Int} {wd dp : Nat} {L : List Int} {e : Int} {W2 : List Int} (hd : 0 < dp) (hw : wd ≤ 16) (hd2 : dp ≤ 8) (hW : W.length = n) (hU : W32s W) (h : DelA W n st wd dp L e W2) : W2.length = n ∧ W32s W2 := by
  rcases h with ⟨_, _, rfl⟩ | ⟨_, _, _, rfl⟩ | ⟨_, _, _, _, rfl⟩ | ⟨_, hR, ⟨⟨Ts, hS⟩, hf⟩, _, rfl⟩
  · exact ⟨hW, hU⟩
  · exact ⟨hW, hU⟩
  · exact ⟨hW, hU⟩
  · have h3 := hS.ok hd hU
    rw [hS.eq] at h3
    have hl := dlW_len hd hW hR.2 hf (fun j hj => (h3.1 j hj).1.2) L.length (Nat.le_refl _)
    have hu := dlW_u hd hw hd2 hW hU hR.2 hf h3.1 L.length (Nat.le_refl _)
    have h1 := hR.1
    unfold inR at h1
    have hll : (layN wd dp [((0 : Nat) : Int)] 0 [] 0).length = 1 + dp * (1 + wd) := layN_len hd 0 (fun j hj => by omega)
    unfold dlZ
    refine ⟨by rw [spl_length (by rw [hll]; omega)]; exact hl, spl_u32 (by rw [hll]; omega) (layN_u32 hd (by omega) (fun i => ?_) 0 (fun j hj => by omega)) hu⟩
    match i with
    | 0 => exact ⟨by decide, by decide⟩
    | i + 1 => rw [getD_over (by simp)]; decide

theorem stgdN (w0 : World) (F : List Atom) (wd dp : Nat) (w1 : 1 ≤ wd) (w2 : wd ≤ 16) (d1 : 1 ≤ dp) (d2 : dp ≤ 8) (b g n c : Nat) (W : List Int) (hW : W.length = n) (hc : n ≤ c) (hn : n ≤ 1073741824) (hU : W32s W) (a : Int) (a0 : -9223372036854775808 ≤ a) (a1 : a ≤ 9223372036854775807) : CallK Try.prog 8 [.pointer (some ⟨b, 0, none⟩), .int .i64 a, .int .i64 (wd : Int), .int .i64 (dp : Int)] w0 (Blk b (.cells [Value.slice (some ⟨g, 0, none⟩) n c].toArray 76 (0, 0)) :: Own 33 1 (.slice (some ⟨g, 0, none⟩) n c) n (ints .u32 W) :: F) (Gives w0 fun v F2 => ∃ k e, v = .tuple #[.int .i64 k, .int .i64 e] ∧ F2 = Blk b (.cells [Value.slice (some ⟨g, 0, none⟩) n c].toArray 76 (0, 0)) :: Own 33 1 (.slice (some ⟨g, 0, none⟩) n c) n (ints .u32 W) :: F ∧ StgdN W n a wd dp k e) := by
  by_cases hi : inR n a ((1 + dp * (1 + wd) : Nat) : Int)
  · exact (stgd_in w0 F wd dp w1 w2 d1 d2 b g n c W hW hc hn hU a hi).gmono fun v F2 ⟨k, e, e1, e2, h⟩ => ⟨k, e, e1, e2, .inr ⟨hi, h⟩⟩
  · exact (stgd_out w0 F wd dp w1 w2 d1 d2 b g n c W hW hc hn hU a a0 a1 hi).gmono fun v F2 ⟨e1, e2⟩ => ⟨0, 51, e1, e2, .inl ⟨hi, rfl, rfl⟩⟩
theorem rstgdN (w0 : World) (F : List Atom) (wd dp : Nat) (w1 : 1 ≤ wd) (w2 : wd ≤ 16) (d1 : 1 ≤ dp) (d2 : dp ≤ 8) (g n c : Nat) (W : List Int) (hW : W.length = n) (hc : n ≤ c) (hn : n ≤ 1073741824) (hU : W32s W) (a : Int) (a0 : -9223372036854775808 ≤ a) (a1 : a ≤ 9223372036854775807) : CallK Try.prog 38 [.slice (some ⟨g, 0, none⟩) n c, .int .i64 a, .int .i64 (wd : Int), .int .i64 (dp : Int)] w0 (Own 33 1 (.slice (some ⟨g, 0, none⟩) n c) n (ints .u32 W) :: F) (Gives w0 fun v F2 => ∃ k e, v = .tuple #[.int .i64 k, .int .i64 e] ∧ F2 = Own 33 1 (.slice (some ⟨g, 0, none⟩) n c) n (ints .u32 W) :: F ∧ StgdN W n a wd dp k e) := by
  by_cases hi : inR n a ((1 + dp * (1 + wd) : Nat) : Int)
  · exact (rstgd_in w0 F wd dp w1 w2 d1 d2 g n c W hW hc hn hU a hi).gmono fun v F2 ⟨k, e, e1, e2, h⟩ => ⟨k, e, e1, e2, .inr ⟨hi, h⟩⟩
  · exact (rstgd_out w0 F wd dp w1 w2 d1 d2 g n c W hW hc hn hU a a0 a1 hi).gmono fun v F2 ⟨e1, e2⟩ => ⟨0, 51, e1, e2, .inl ⟨hi, rfl, rfl⟩⟩
theorem cntN (w0 : World) (F : List Atom) (wd dp : Nat) (w1 : 1 ≤ wd) (w2 : wd ≤ 16) (d1 : 1 ≤ dp) (d2 : dp ≤ 8) (b g n c : Nat) (W : List Int) (hW : W.length = n) (hc : n ≤ c) (hn : n ≤ 1073741824) (hU : W32s W) (a : Int) (a0 : -9223372036854775808 ≤ a) (a1 : a ≤ 9223372036854775807) : CallK Try.prog 12 [.pointer (some ⟨b, 0, none⟩), .int .i64 a, .int .i64 (wd : Int), .int .i64 (dp : Int)] w0 (Blk b (.cells [Value.slice (some ⟨g, 0, none⟩) n c].toArray 76 (0, 0)) :: Own 33 1 (.slice (some ⟨g, 0, none⟩) n c) n (ints .u32 W) :: F) (Gives w0 fun v F2 => ∃ k ls e, v = .tuple #[.int .i64 k, .int .u32 ls, .int .i64 e] ∧ F2 = Blk b (.cells [Value.slice (some ⟨g, 0, none⟩) n c].toArray 76 (0, 0)) :: Own 33 1 (.slice (some ⟨g, 0, none⟩) n c) n (ints .u32 W) :: F ∧ CntN W n a wd dp k ls e) := by
  by_cases hi : inR n a ((3 + dp * (1 + wd) : Nat) : Int)
  · exact (count_in w0 F wd dp w1 w2 d1 d2 b g n c W hW hc hn hU a hi).gmono fun v F2 ⟨k, ls, e, e1, e2, h⟩ => ⟨k, ls, e, e1, e2, .inr ⟨hi, h⟩⟩
  · exact (count_out w0 F wd dp w1 w2 d1 d2 b g n c W hW hc hn hU a a0 a1 hi).gmono fun v F2 ⟨e1, e2⟩ => ⟨0, 0, 51, e1, e2, .inl ⟨hi, rfl, rfl, rfl⟩⟩
theorem rcntN (w0 : World) (F : List Atom) (wd dp : Nat) (w1 : 1 ≤ wd) (w2 : wd ≤ 16) (d1 : 1 ≤ dp) (d2 : dp ≤ 8) (g n c : Nat) (W : List Int) (hW : W.length = n) (hc : n ≤ c) (hn : n ≤ 1073741824) (hU : W32s W) (a : Int) (a0 : -9223372036854775808 ≤ a) (a1 : a ≤ 9223372036854775807) : CallK Try.prog 45 [.slice (some ⟨g, 0, none⟩) n c, .int .i64 a, .int .i64 (wd : Int), .int .i64 (dp : Int)] w0 (Own 33 1 (.slice (some ⟨g, 0, none⟩) n c) n (ints .u32 W) :: F) (Gives w0 fun v F2 => ∃ k ls e, v = .tuple #[.int .i64 k, .int .u32 ls, .int .i64 e] ∧ F2 = Own 33 1 (.slice (some ⟨g, 0, none⟩) n c) n (ints .u32 W) :: F ∧ CntN W n a wd dp k ls e) := by
  by_cases hi : inR n a ((3 + dp * (1 + wd) : Nat) : Int)
  · exact (rcount_in w0 F wd dp w1 w2 d1 d2 g n c W hW hc hn hU a hi).gmono fun v F2 ⟨k, ls, e, e1, e2, h⟩ => ⟨k, ls, e, e1, e2, .inr ⟨hi, h⟩⟩
  · exact (rcount_out w0 F wd dp w1 w2 d1 d2 g n c W hW hc hn hU a a0 a1 hi).gmono fun v F2 ⟨e1, e2⟩ => ⟨0, 0, 51, e1, e2, .inl ⟨hi, rfl, rfl, rfl⟩⟩
theorem CallK.gany {P g args w0 F} {R R' : Value → List Atom → Prop} (h : CallK P g args w0 F (Gives w0 R)) (hr : ∀ v F', R v F' → ∀ w, Holds w0 F' w → ∃ F'', R' v F'' ∧ ∀ w, Holds w0 F' w → Holds w0 F'' w) : CallK P g args w0 F (Gives w0 R') :=
  fun w hw => (h w hw).mono fun e w' ⟨F', ⟨v, F2, h1, h2, h3⟩, h4⟩ => by
    obtain ⟨F3, h5, h6⟩ := hr v F2 h2 w' (h3 w' h4)
    exact ⟨F', ⟨v, F3, h1, h5, fun w hw => h6 w (h3 w hw)⟩, h4⟩
theorem lookN (w0 : World) (F : List Atom) (wd dp : Nat) (w1 : 1 ≤ wd) (w2 : wd ≤ 16) (d1 : 1 ≤ dp) (d2 : dp ≤ 8) (b g n c : Nat) (W : List Int) (hW : W.length = n) (hc : n ≤ c) (hn : n ≤ 1073741824) (hU : W32s W) (a : Int) (a0 : -9223372036854775808 ≤ a) (a1 : a ≤ 9223372036854775807) : CallK Try.prog 10 [.pointer (some ⟨b, 0, none⟩), .int .i64 a, .int .i64 (wd : Int), .int .i64 (dp : Int)] w0 (Blk b (.cells [Value.slice (some ⟨g, 0, none⟩) n c].toArray 76 (0, 0)) :: Own 33 1 (.slice (some ⟨g, 0, none⟩) n c) n (ints .u32 W) :: F) (Gives w0 fun v F2 => ∃ la q c2 T th e, v = .tuple #[.slice la q c2, .bool th, .int .i64 e] ∧ F2 = Own 33 1 (.slice la q c2) q (ints .u32 T) :: Blk b (.cells [Value.slice (some ⟨g, 0, none⟩) n c].toArray 76 (0, 0)) :: Own 33 1 (.slice (some ⟨g, 0, none⟩) n c) n (ints .u32 W) :: F ∧ T.length = q ∧ (q = 0 ∨ ∃ g, la = some ⟨g, 0, none⟩) ∧ LookN W n a wd dp T th e) := by
  by_cases hi : inR n a ((3 + dp * (1 + wd) : Nat) : Int)
  · exact (look_in w0 F wd dp w1 w2 d1 d2 b g n c W hW hc hn hU a hi).gmono fun v F2 ⟨la, q, c2, T, th, e, e1, e2, e3, e4, h⟩ => ⟨la, q, c2, T, th, e, e1, e2, e3, e4, .inr ⟨hi, h⟩⟩
  · exact (look_out w0 F wd dp w1 w2 d1 d2 b g n c W hW hc hn hU a a0 a1 hi).gany fun v F2 ⟨e1, e2⟩ w hw => ⟨_, ⟨none, 0, 0, [], false, 51, e1, rfl, rfl, .inl rfl, .inl ⟨hi, rfl, rfl, rfl⟩⟩, fun w hw => by subst e2; exact hw.own_nil 33 1⟩
theorem rlookN (w0 : World) (F : List Atom) (wd dp : Nat) (w1 : 1 ≤ wd) (w2 : wd ≤ 16) (d1 : 1 ≤ dp) (d2 : dp ≤ 8) (g n c : Nat) (W : List Int) (hW : W.length = n) (hc : n ≤ c) (hn : n ≤ 1073741824) (hU : W32s W) (a : Int) (a0 : -9223372036854775808 ≤ a) (a1 : a ≤ 9223372036854775807) : CallK Try.prog 42 [.slice (some ⟨g, 0, none⟩) n c, .int .i64 a, .int .i64 (wd : Int), .int .i64 (dp : Int)] w0 (Own 33 1 (.slice (some ⟨g, 0, none⟩) n c) n (ints .u32 W) :: F) (Gives w0 fun v F2 => ∃ la q c2 T th e, v = .tuple #[.slice la q c2, .bool th, .int .i64 e] ∧ F2 = Own 33 1 (.slice la q c2) q (ints .u32 T) :: Own 33 1 (.slice (some ⟨g, 0, none⟩) n c) n (ints .u32 W) :: F ∧ T.length = q ∧ (q = 0 ∨ ∃ g, la = some ⟨g, 0, none⟩) ∧ LookN W n a wd dp T th e) := by
  by_cases hi : inR n a ((3 + dp * (1 + wd) : Nat) : Int)
  · exact (rlook_in w0 F wd dp w1 w2 d1 d2 g n c W hW hc hn hU a hi).gmono fun v F2 ⟨la, q, c2, T, th, e, e1, e2, e3, e4, h⟩ => ⟨la, q, c2, T, th, e, e1, e2, e3, e4, .inr ⟨hi, h⟩⟩
  · exact (rlook_out w0 F wd dp w1 w2 d1 d2 g n c W hW hc hn hU a a0 a1 hi).gany fun v F2 ⟨e1, e2⟩ w hw => ⟨_, ⟨none, 0, 0, [], false, 51, e1, rfl, rfl, .inl rfl, .inl ⟨hi, rfl, rfl, rfl⟩⟩, fun w hw => by subst e2; exact hw.own_nil 33 1⟩
theorem takN (w0 : World) (F : List Atom) (wd dp : Nat) (w1 : 1 ≤ wd) (w2 : wd ≤ 16) (d1 : 1 ≤ dp) (d2 : dp ≤ 8) (b g n c : Nat) (W : List Int) (hW : W.length = n) (hc : n ≤ c) (hn : n ≤ 1073741824) (hU : W32s W) (a : Int) (a0 : -9223372036854775808 ≤ a) (a1 : a ≤ 9223372036854775807) : CallK Try.prog 11 [.pointer (some ⟨b, 0, none⟩), .int .i64 a, .int .i64 (wd : Int), .int .i64 (dp : Int)] w0 (Blk b (.cells [Value.slice (some ⟨g, 0, none⟩) n c].toArray 76 (0, 0)) :: Own 33 1 (.slice (some ⟨g, 0, none⟩) n c) n (ints .u32 W) :: F) (Gives w0 fun v F2 => ∃ ok e W2, v = .tuple #[.bool ok, .int .i64 e] ∧ F2 = Blk b (.cells [Value.slice (some ⟨g, 0, none⟩) n c].toArray 76 (0, 0)) :: Own 33 1 (.slice (some ⟨g, 0, none⟩) n c) n (ints .u32 W2) :: F ∧ TakN W n a wd dp ok e W2) := by
  by_cases hi : inR n a ((3 + dp * (1 + wd) : Nat) : Int)
  · exact (takeq_in w0 F wd dp w1 w2 d1 d2 b g n c W hW hc hn hU a hi).gmono fun v F2 ⟨ok, e, W2, e1, _, e2, h⟩ => ⟨ok, e, W2, e1, e2, .inr ⟨hi, h⟩⟩
  · exact (takeq_out w0 F wd dp w1 w2 d1 d2 b g n c W hW hc hn hU a a0 a1 hi).gmono fun v F2 ⟨e1, e2⟩ => ⟨false, 51, W, e1, e2, .inl ⟨hi, rfl, rfl, rfl⟩⟩
theorem rtakN (w0 : World) (F : List Atom) (wd dp : Nat) (w1 : 1 ≤ wd) (w2 : wd ≤ 16) (d1 : 1 ≤ dp) (d2 : dp ≤ 8) (g n c : Nat) (W : List Int) (hW : W.length = n) (hc : n ≤ c) (hn : n ≤ 1073741824) (hU : W32s W) (a : Int) (a0 : -9223372036854775808 ≤ a) (a1 : a ≤ 9223372036854775807) : CallK Try.prog 44 [.slice (some ⟨g, 0, none⟩) n c, .int .i64 a, .int .i64 (wd : Int), .int .i64 (dp : Int)] w0 (Own 33 1 (.slice (some ⟨g, 0, none⟩) n c) n (ints .u32 W) :: F) (Gives w0 fun v F2 => ∃ g2 c2 ok e W2, v = .tuple #[.slice (some ⟨g2, 0, none⟩) n c2, .bool ok, .int .i64 e] ∧ n ≤ c2 ∧ F2 = Own 33 1 (.slice (some ⟨g2, 0, none⟩) n c2) n (ints .u32 W2) :: F ∧ TakN W n a wd dp ok e W2) := by
  by_cases hi : inR n a ((3 + dp * (1 + wd) : Nat) : Int)
  · exact (rtake_in w0 F wd dp w1 w2 d1 d2 g n c W hW hc hn hU a hi).gmono fun v F2 ⟨g2, c2, ok, e, W2, e1, e2, _, e3, h⟩ => ⟨g2, c2, ok, e, W2, e1, e2, e3, .inr ⟨hi, h⟩⟩
  · exact (rtake_out w0 F wd dp w1 w2 d1 d2 g n c W hW hc hn hU a a0 a1 hi).gmono fun v F2 ⟨e1, e2⟩ => ⟨g, c, false, 51, W, e1, hc, e2, .inl ⟨hi, rfl, rfl, rfl⟩⟩
theorem putN (w0 : World) (F : List Atom) (wd dp : Nat) (w1 : 1 ≤ wd) (w2 : wd ≤ 16) (d1 : 1 ≤ dp) (d2 : dp ≤ 8) (b g n c : Nat) (W : List Int) (hW : W.length = n) (hc : n ≤ c) (hn : n ≤ 1073741824) (hU : W32s W) (a : Int) (a0 : -9223372036854775808 ≤ a) (a1 : a ≤ 9223372036854775807) (ma : Option Addr) (q qc : Nat) (M : List Int) (hM : IR w0 F .u32 ma q M) (hMU : W32s M) (hq : q ≤ 9223372036854775807) : CallK Try.prog 7 [.pointer (some ⟨b, 0, none⟩), .int .i64 a, .int .i64 (wd : Int), .int .i64 (dp : Int), .slice ma q qc] w0 (Blk b (.cells [Value.slice (some ⟨g, 0, none⟩) n c].toArray 76 (0, 0)) :: Own 33 1 (.slice (some ⟨g, 0, none⟩) n c) n (ints .u32 W) :: F) (Gives w0 fun v F2 => ∃ ok e W2, v = .tuple #[.bool ok, .int .i64 e] ∧ F2 = Blk b (.cells [Value.slice (some ⟨g, 0, none⟩) n c].toArray 76 (0, 0)) :: Own 33 1 (.slice (some ⟨g, 0, none⟩) n c) n (ints .u32 W2) :: F ∧ PutN W n a wd dp M ok e W2) := by
  by_cases hq9 : M.length = 0 ∨ wd < M.length
  · exact (put_words w0 _ b wd dp w1 w2 d1 d2 a ma q qc (by rw [← hM.1]; exact hq9) hq).gmono fun v F2 ⟨e1, e2⟩ => ⟨false, 200, W, e1, e2, .inl ⟨hq9, rfl, rfl, rfl⟩⟩
  have hql := hM.1
  by_cases hi : inR n a ((1 + dp * (1 + wd) : Nat) : Int)
  · exact (put_in w0 F wd dp w1 w2 d1 d2 b g n c W hW hc hn hU a hi ma q qc M hM (by omega) (by omega)).gmono fun v F2 ⟨ok, e, W2, e1, _, e2, h⟩ => ⟨ok, e, W2, e1, e2, .inr (.inr ⟨hq9, hi, h⟩)⟩
  · exact (put_out w0 F wd dp w1 w2 d1 d2 b g n c W hW hc hn hU a a0 a1 hi ma q qc (by omega) (by omega)).gmono fun v F2 ⟨e1, e2⟩ => ⟨false, 51, W, e1, e2, .inr (.inl ⟨hq9, hi, rfl, rfl, rfl⟩)⟩
theorem rputN (w0 : World) (F : List Atom) (wd dp : Nat) (w1 : 1 ≤ wd) (w2 : wd ≤ 16) (d1 : 1 ≤ dp) (d2 : dp ≤ 8) (g n c : Nat) (W : List Int) (hW : W.length = n) (hc : n ≤ c) (hn : n ≤ 1073741824) (hU : W32s W) (a : Int) (a0 : -9223372036854775808 ≤ a) (a1 : a ≤ 9223372036854775807) (ma : Option Addr) (q qc : Nat) (M : List Int) (hM : IR w0 F .u32 ma q M) (hMU : W32s M) (hq : q ≤ 9223372036854775807) : CallK Try.prog 35 [.slice (some ⟨g, 0, none⟩) n c, .int .i64 a, .int .i64 (wd : Int), .int .i64 (dp : Int), .slice ma q qc] w0 (Own 33 1 (.slice (some ⟨g, 0, none⟩) n c) n (ints .u32 W) :: F) (Gives w0 fun v F2 => ∃ g2 c2 ok e W2, v = .tuple #[.slice (some ⟨g2, 0, none⟩) n c2, .bool ok, .int .i64 e] ∧ n ≤ c2 ∧ F2 = Own 33 1 (.slice (some ⟨g2, 0, none⟩) n c2) n (ints .u32 W2) :: F ∧ PutN W n a wd dp M ok e W2) := by
  by_cases hq9 : M.length = 0 ∨ wd < M.length
  · exact (rput_words w0 _ g n c wd dp w1 w2 d1 d2 a ma q qc (by rw [← hM.1]; exact hq9) hq).gmono fun v F2 ⟨e1, e2⟩ => ⟨g, c, false, 200, W, e1, hc, e2, .inl ⟨hq9, rfl, rfl, rfl⟩⟩
  have hql := hM.1
  by_cases hi : inR n a ((1 + dp * (1 + wd) : Nat) : Int)
  · exact (rput_in w0 F wd dp w1 w2 d1 d2 g n c W hW hc hn hU a hi ma q qc M hM hMU (by omega) (by omega)).gmono fun v F2 ⟨g2, c2, ok, e, W2, e1, e2, _, e3, h⟩ => ⟨g2, c2, ok, e, W2, e1, e2, e3, .inr (.inr ⟨hq9, hi, h⟩)⟩
  · exact (rput_out w0 F wd dp w1 w2 d1 d2 g n c W hW hc hn hU a a0 a1 hi ma q qc (by omega) (by omega)).gmono fun v F2 ⟨e1, e2⟩ => ⟨g, c, false, 51, W, e1, hc, e2, .inr (.inl ⟨hq9, hi, rfl, rfl, rfl⟩)⟩
def StgdB (W : List Int) (n : Nat) (a wd dp : Int) (k e : Int) : Prop := (¬ QOk wd dp ∧ k = 0 ∧ e = 1) ∨ (QOk wd dp ∧ StgdN W n a wd.toNat dp.toNat k e)
theorem StgdB.one {W : List Int} {n : Nat} {a wd dp : Int} {k e : Int} {k' : Int} {e' : Int} (h : StgdB W n a wd dp k e) (h' : StgdB W n a wd dp k' e') : k = k' ∧ e = e' := by
  rcases h with ⟨c, x0, x1⟩ | ⟨c, x⟩ <;> rcases h' with ⟨c', y0, y1⟩ | ⟨c', y⟩
  · exact ⟨x0.trans y0.symm, x1.trans y1.symm⟩
  · exact absurd c' c
  · exact absurd c c'
  · exact x.one y
def CntB (W : List Int) (n : Nat) (a wd dp : Int) (k ls e : Int) : Prop := (¬ QOk wd dp ∧ k = 0 ∧ ls = 0 ∧ e = 1) ∨ (QOk wd dp ∧ CntN W n a wd.toNat dp.toNat k ls e)
theorem CntB.one {W : List Int} {n : Nat} {a wd dp : Int} {k ls e : Int} {k' : Int} {ls' : Int} {e' : Int} (h : CntB W n a wd dp k ls e) (h' : CntB W n a wd dp k' ls' e') : k = k' ∧ ls = ls' ∧ e = e' := by
  rcases h with ⟨c, x0, x1, x2⟩ | ⟨c, x⟩ <;> rcases h' with ⟨c', y0, y1, y2⟩ | ⟨c', y⟩
  · exact ⟨x0.trans y0.symm, x1.trans y1.symm, x2.trans y2.symm⟩
  · exact absurd c' c
  · exact absurd c c'
  · exact x.one y
def LookB (W : List Int) (n : Nat) (a wd dp : Int) (T : List Int) (th : Bool) (e : Int) : Prop := (¬ QOk wd dp ∧ T = [] ∧ th = false ∧ e = 1) ∨ (QOk wd dp ∧ LookN W n a wd.toNat dp.toNat T th e)
theorem LookB.one {W : List Int} {n : Nat} {a wd dp : Int} {T : List Int} {th : Bool} {e : Int} {T' : List Int} {th' : Bool} {e' : Int} (h : LookB W n a wd dp T th e) (h' : LookB W n a wd dp T' th' e') : T = T' ∧ th = th' ∧ e = e' := by
  rcases h with ⟨c, x0, x1, x2⟩ | ⟨c, x⟩ <;> rcases h' with ⟨c', y0, y1, y2⟩ | ⟨c', y⟩
  · exact ⟨x0.trans y0.symm, x1.trans y1.symm, x2.trans y2.symm⟩
  · exact absurd c' c
  · exact absurd c c'
  · exact x.one y
def TakB (W : List Int) (n : Nat) (a wd dp : Int) (ok : Bool) (e : Int) (W2 : List Int) : Prop := (¬ QOk wd dp ∧ ok = false ∧ e = 1 ∧ W2 = W) ∨ (QOk wd dp ∧ TakN W n a wd.toNat dp.toNat ok e W2)
theorem TakB.one {W : List Int} {n : Nat} {a wd dp : Int} {ok : Bool} {e : Int} {W2 : List Int} {ok' : Bool} {e' : Int} {W2' : List Int} (h : TakB W n a wd dp ok e W2) (h' : TakB W n a wd dp ok' e' W2') : ok = ok' ∧ e = e' ∧ W2 = W2' := by
  rcases h with ⟨c, x0, x1, x2⟩ | ⟨c, x⟩ <;> rcases h' with ⟨c', y0, y1, y2⟩ | ⟨c', y⟩
  · exact ⟨x0.trans y0.symm, x1.trans y1.symm, x2.trans y2.symm⟩
  · exact absurd c' c
  · exact absurd c c'
  · exact x.one y
def PutB (W : List Int) (n : Nat) (a wd dp : Int) (M : List Int) (ok : Bool) (e : Int) (W2 : List Int) : Prop := (¬ QOk wd dp ∧ ok = false ∧ e = 1 ∧ W2 = W) ∨ (QOk wd dp ∧ PutN W n a wd.toNat dp.toNat M ok e W2)
theorem PutB.one {W : List Int} {n : Nat} {a wd dp : Int} {M : List Int} {ok : Bool} {e : Int} {W2 : List Int} {ok' : Bool} {e' : Int} {W2' : List Int} (h : PutB W n a wd dp M ok e W2) (h' : PutB W n a wd dp M ok' e' W2') : ok = ok' ∧ e = e' ∧ W2 = W2' := by
  rcases h with ⟨c, x0, x1, x2⟩ | ⟨c, x⟩ <;> rcases h' with ⟨c', y0, y1, y2⟩ | ⟨c', y⟩
  · exact ⟨x0.trans y0.symm, x1.trans y1.symm, x2.trans y2.symm⟩
  · exact absurd c' c
  · exact absurd c c'
  · exact x.one y
def DelB (W : List Int) (n : Nat) (a wd dp : Int) (L : List Int) (e : Int) (W2 : List Int) : Prop := (¬ QOk wd dp ∧ e = 1 ∧ W2 = W) ∨ (QOk wd dp ∧ DelA W n a wd.toNat dp.toNat L e W2)
theorem DelB.one {W : List Int} {n : Nat} {a wd dp : Int} {L : List Int} {e : Int} {W2 : List Int} {e' : Int} {W2' : List Int} (h : DelB W n a wd dp L e W2) (h' : DelB W n a wd dp L e' W2') : e = e' ∧ W2 = W2' := by
  rcases h with ⟨c, x0, x1⟩ | ⟨c, x⟩ <;> rcases h' with ⟨c', y0, y1⟩ | ⟨c', y⟩
  · exact ⟨x0.trans y0.symm, x1.trans y1.symm⟩
  · exact absurd c' c
  · exact absurd c c'
  · exact x.one y
theorem LookB.u {W : List Int} {n : Nat} {a wd dp : Int} {th : Bool} {e : Int} {T : List Int} (h : LookB W n a wd dp T th e) (hU : W32s W) : W32s T := by
  rcases h with ⟨_, rfl, _⟩ | ⟨_, h⟩
  · intro i; simp
  · exact h.u hU
theorem PutB.w {n : Nat} {wd dp : Int} {W W2 M : List Int} {a e : Int} {ok : Bool} (hW : W.length = n) (hU : W32s W) (hM : W32s M) (h : PutB W n a wd dp M ok e W2) : W2.length = n ∧ W32s W2 := by
  rcases h with ⟨_, _, _, rfl⟩ | ⟨hq, h⟩
  · exact ⟨hW, hU⟩
  · unfold QOk at hq
    exact h.w (by omega) (by omega) (by omega) hW hU hM
theorem TakB.w {n : Nat} {wd dp : Int} {W W2 : List Int} {a e : Int} {ok : Bool} (hW : W.length = n) (hU : W32s W) (h : TakB W n a wd dp ok e W2) : W2.length = n ∧ W32s W2 := by
  rcases h with ⟨_, _, _, rfl⟩ | ⟨hq, h⟩
  · exact ⟨hW, hU⟩
  · unfold QOk at hq
    exact h.w (by omega) (by omega) (by omega) hW hU
theorem DelB.w {n : Nat} {wd dp : Int} {W W2 L : List Int} {a e : Int} (hW : W.length = n) (hU : W32s W) (h : DelB W n a wd dp L e W2) : W2.length = n ∧ W32s W2 := by
  rcases h with ⟨_, _, rfl⟩ | ⟨hq, h⟩
  · exact ⟨hW, hU⟩
  · unfold QOk at hq
    exact h.w (by omega) (by omega) (by omega) hW hU
theorem qok_nat {wd dp : Int} (h : QOk wd dp) : ∃ w d : Nat, wd = (w : Int) ∧ dp = (d : Int) ∧ 1 ≤ w ∧ w ≤ 16 ∧ 1 ≤ d ∧ d ≤ 8 := by
  unfold QOk at h
  exact ⟨wd.toNat, dp.toNat, by omega, by omega, by omega, by omega, by omega, by omega⟩
theorem pdel_bad (w0 : World) (F : List Atom) (b : Nat) (wd dp at_ : Int) (hq : ¬ QOk wd dp) (la : Option Addr) (ln lc : Nat) :
    CallK Try.prog 9 [.pointer (some ⟨b, 0, none⟩), .int .i64 at_, .int .i64 wd, .int .i64 dp, .slice la ln lc] w0 (F) (Gives w0 fun v F2 => v = .int .i64 1 ∧ F2 = F) := by
  refine c_enter Try.func9 rfl rfl rfl ?_
  refine g_seq ?_
  refine g_region ?_
  refine l_assign rfl rfl ?_
  refine l_nil ?_
  refine g_seq ?_
  refine g_region ?_
  refine l_move rfl rfl ?_
  refine l_move rfl rfl ?_
  refine l_build rfl rfl (fun w => bd_61_0_1 _ _ w) ?_
  refine l_allocs rfl Try.zeroValue61 ?_; intro b11
  refine l_sts Try.sizeOf61 rfl rfl rfl rfl rfl ?_
  refine l_nil ?_
  refine g_seq ?_
  refine g_seq ?_
  refine g_region ?_
  refine l_move rfl rfl ?_
  refine l_lds rfl Try.isAgg61 Try.sizeOf61 rfl rfl ?_
  refine l_call rfl Try.call23 rfl (asked_bad _ _ b wd dp hq) ?_; rintro _ F9 ⟨rfl, hF9⟩; rw [hF9]; clear hF9 F9
  refine l_assign rfl rfl ?_
  refine l_nil ?_
  refine g_seq ?_
  refine g_region ?_
  refine l_move rfl rfl ?_
  refine l_neq rfl rfl rfl ?_
  refine l_nil ?_
  refine g_cond rfl ?_ ?_
  · intro hbr
    have hbr := of_decide_eq_true hbr
    refine g_seq ?_
    refine g_region ?_
    refine l_move rfl rfl ?_
    refine l_assign rfl rfl ?_
    refine l_nil ?_
    refine g_ret Try.func9 rfl (.tmp rfl .nil) ?_
    exact Gives.mki ⟨rfl, rfl⟩
  · intro hbr
    have hbr := of_decide_eq_false hbr
    (exfalso; first | omega | (simp at hbr; done))
theorem rdel_bad (w0 : World) (F : List Atom) (g n c : Nat) (wd dp at_ : Int) (hq : ¬ QOk wd dp) (la : Option Addr) (ln lc : Nat) :
    CallK Try.prog 40 [.slice (some ⟨g, 0, none⟩) n c, .int .i64 at_, .int .i64 wd, .int .i64 dp, .slice la ln lc] w0 (F) (Gives w0 fun v F2 => v = .tuple #[.slice (some ⟨g, 0, none⟩) n c, .int .i64 1] ∧ F2 = F) := by
  refine c_enter Try.func40 rfl rfl rfl ?_
  refine g_seq ?_
  refine g_region ?_
  refine l_assign rfl rfl ?_
  refine l_assign rfl rfl ?_
  refine l_nil ?_
  refine g_seq ?_
  refine g_seq ?_
  refine g_region ?_
  refine l_move rfl rfl ?_
  refine l_move rfl rfl ?_
  refine l_call rfl Try.call52 rfl (bounds_bad _ _ wd dp hq) ?_; rintro _ F9 ⟨rfl, hF9⟩; rw [hF9]; clear hF9 F9
  refine l_not rfl rfl ?_
  refine l_nil ?_
  first | refine g_cond_t rfl ?_ | refine g_cond_t (congrArg (fun b => some (Value.bool b)) (decide_eq_true hbr)) ?_
  refine g_seq ?_
  refine g_region ?_
  refine l_move rfl rfl ?_
  refine l_assign rfl rfl ?_
  refine l_assign rfl rfl ?_
  refine l_nil ?_
  refine g_ret Try.func40 rfl (.tmp rfl (.tmp rfl .nil)) ?_
  exact Gives.mki ⟨rfl, rfl⟩
theorem stgdB (w0 : World) (F : List Atom) (wd dp : Int) (b g n c : Nat) (W : List Int) (hW : W.length = n) (hc : n ≤ c) (hn : n ≤ 1073741824) (hU : W32s W) (a : Int) (a0 : -9223372036854775808 ≤ a) (a1 : a ≤ 9223372036854775807) : CallK Try.prog 8 [.pointer (some ⟨b, 0, none⟩), .int .i64 a, .int .i64 wd, .int .i64 dp] w0 (Blk b (.cells [Value.slice (some ⟨g, 0, none⟩) n c].toArray 76 (0, 0)) :: Own 33 1 (.slice (some ⟨g, 0, none⟩) n c) n (ints .u32 W) :: F) (Gives w0 fun v F2 => ∃ k e, v = .tuple #[.int .i64 k, .int .i64 e] ∧ F2 = Blk b (.cells [Value.slice (some ⟨g, 0, none⟩) n c].toArray 76 (0, 0)) :: Own 33 1 (.slice (some ⟨g, 0, none⟩) n c) n (ints .u32 W) :: F ∧ StgdB W n a wd dp k e) := by
  by_cases hq9 : QOk wd dp
  · obtain ⟨w, d, rfl, rfl, h1, h2, h3, h4⟩ := qok_nat hq9
    exact (stgdN w0 F w d h1 h2 h3 h4 b g n c W hW hc hn hU a a0 a1).gmono fun v F2 ⟨k, e, e1, e2, h⟩ => ⟨k, e, e1, e2, .inr ⟨hq9, h⟩⟩
  · exact (stgd_bad w0 _ b wd dp a hq9).gmono fun v F2 ⟨e1, e2⟩ => ⟨0, 1, e1, e2, .inl ⟨hq9, rfl, rfl⟩⟩
theorem rstgdB (w0 : World) (F : List Atom) (wd dp : Int) (g n c : Nat) (W : List Int) (hW : W.length = n) (hc : n ≤ c) (hn : n ≤ 1073741824) (hU : W32s W) (a : Int) (a0 : -9223372036854775808 ≤ a) (a1 : a ≤ 9223372036854775807) : CallK Try.prog 38 [.slice (some ⟨g, 0, none⟩) n c, .int .i64 a, .int .i64 wd, .int .i64 dp] w0 (Own 33 1 (.slice (some ⟨g, 0, none⟩) n c) n (ints .u32 W) :: F) (Gives w0 fun v F2 => ∃ k e, v = .tuple #[.int .i64 k, .int .i64 e] ∧ F2 = Own 33 1 (.slice (some ⟨g, 0, none⟩) n c) n (ints .u32 W) :: F ∧ StgdB W n a wd dp k e) := by
  by_cases hq9 : QOk wd dp
  · obtain ⟨w, d, rfl, rfl, h1, h2, h3, h4⟩ := qok_nat hq9
    exact (rstgdN w0 F w d h1 h2 h3 h4 g n c W hW hc hn hU a a0 a1).gmono fun v F2 ⟨k, e, e1, e2, h⟩ => ⟨k, e, e1, e2, .inr ⟨hq9, h⟩⟩
  · exact (rstgd_bad w0 _ g n c wd dp a hq9).gmono fun v F2 ⟨e1, e2⟩ => ⟨0, 1, e1, e2, .inl ⟨hq9, rfl, rfl⟩⟩
theorem cntB (w0 : World) (F : List Atom) (wd dp : Int) (b g n c : Nat) (W : List Int) (hW : W.length = n) (hc : n ≤ c) (hn : n ≤ 1073741824) (hU : W32s W) (a : Int) (a0 : -9223372036854775808 ≤ a) (a1 : a ≤ 9223372036854775807) : CallK Try.prog 12 [.pointer (some ⟨b, 0, none⟩), .int .i64 a, .int .i64 wd, .int .i64 dp] w0 (Blk b (.cells [Value.slice (some ⟨g, 0, none⟩) n c].toArray 76 (0, 0)) :: Own 33 1 (.slice (some ⟨g, 0, none⟩) n c) n (ints .u32 W) :: F) (Gives w0 fun v F2 => ∃ k ls e, v = .tuple #[.int .i64 k, .int .u32 ls, .int .i64 e] ∧ F2 = Blk b (.cells [Value.slice (some ⟨g, 0, none⟩) n c].toArray 76 (0, 0)) :: Own 33 1 (.slice (some ⟨g, 0, none⟩) n c) n (ints .u32 W) :: F ∧ CntB W n a wd dp k ls e) := by
  by_cases hq9 : QOk wd dp
  · obtain ⟨w, d, rfl, rfl, h1, h2, h3, h4⟩ := qok_nat hq9
    exact (cntN w0 F w d h1 h2 h3 h4 b g n c W hW hc hn hU a a0 a1).gmono fun v F2 ⟨k, ls, e, e1, e2, h⟩ => ⟨k, ls, e, e1, e2, .inr ⟨hq9, h⟩⟩
  · exact (count_bad w0 _ b wd dp a hq9).gmono fun v F2 ⟨e1, e2⟩ => ⟨0, 0, 1, e1, e2, .inl ⟨hq9, rfl, rfl, rfl⟩⟩
theorem rcntB (w0 : World) (F : List Atom) (wd dp : Int) (g n c : Nat) (W : List Int) (hW : W.length = n) (hc : n ≤ c) (hn : n ≤ 1073741824) (hU : W32s W) (a : Int) (a0 : -9223372036854775808 ≤ a) (a1 : a ≤ 9223372036854775807) : CallK Try.prog 45 [.slice (some ⟨g, 0, none⟩) n c, .int .i64 a, .int .i64 wd, .int .i64 dp] w0 (Own 33 1 (.slice (some ⟨g, 0, none⟩) n c) n (ints .u32 W) :: F) (Gives w0 fun v F2 => ∃ k ls e, v = .tuple #[.int .i64 k, .int .u32 ls, .int .i64 e] ∧ F2 = Own 33 1 (.slice (some ⟨g, 0, none⟩) n c) n (ints .u32 W) :: F ∧ CntB W n a wd dp k ls e) := by
  by_cases hq9 : QOk wd dp
  · obtain ⟨w, d, rfl, rfl, h1, h2, h3, h4⟩ := qok_nat hq9
    exact (rcntN w0 F w d h1 h2 h3 h4 g n c W hW hc hn hU a a0 a1).gmono fun v F2 ⟨k, ls, e, e1, e2, h⟩ => ⟨k, ls, e, e1, e2, .inr ⟨hq9, h⟩⟩
  · exact (rcount_bad w0 _ g n c wd dp a hq9).gmono fun v F2 ⟨e1, e2⟩ => ⟨0, 0, 1, e1, e2, .inl ⟨hq9, rfl, rfl, rfl⟩⟩
theorem lookB (w0 : World) (F : List Atom) (wd dp : Int) (b g n c : Nat) (W : List Int) (hW : W.length = n) (hc : n ≤ c) (hn : n ≤ 1073741824) (hU : W32s W) (a : Int) (a0 : -9223372036854775808 ≤ a) (a1 : a ≤ 9223372036854775807) : CallK Try.prog 10 [.pointer (some ⟨b, 0, none⟩), .int .i64 a, .int .i64 wd, .int .i64 dp] w0 (Blk b (.cells [Value.slice (some ⟨g, 0, none⟩) n c].toArray 76 (0, 0)) :: Own 33 1 (.slice (some ⟨g, 0, none⟩) n c) n (ints .u32 W) :: F) (Gives w0 fun v F2 => ∃ la q c2 T th e, v = .tuple #[.slice la q c2, .bool th, .int .i64 e] ∧ F2 = Own 33 1 (.slice la q c2) q (ints .u32 T) :: Blk b (.cells [Value.slice (some ⟨g, 0, none⟩) n c].toArray 76 (0, 0)) :: Own 33 1 (.slice (some ⟨g, 0, none⟩) n c) n (ints .u32 W) :: F ∧ T.length = q ∧ (q = 0 ∨ ∃ g, la = some ⟨g, 0, none⟩) ∧ LookB W n a wd dp T th e) := by
  by_cases hq9 : QOk wd dp
  · obtain ⟨w, d, rfl, rfl, h1, h2, h3, h4⟩ := qok_nat hq9
    exact (lookN w0 F w d h1 h2 h3 h4 b g n c W hW hc hn hU a a0 a1).gmono fun v F2 ⟨la, q, c2, T, th, e, e1, e2, e3, e4, h⟩ => ⟨la, q, c2, T, th, e, e1, e2, e3, e4, .inr ⟨hq9, h⟩⟩
  · exact (look_bad w0 _ b wd dp a hq9).gany fun v F2 ⟨e1, e2⟩ w hw => ⟨_, ⟨none, 0, 0, [], false, 1, e1, rfl, rfl, .inl rfl, .inl ⟨hq9, rfl, rfl, rfl⟩⟩, fun w hw => by subst e2; exact hw.own_nil 33 1⟩
theorem rlookB (w0 : World) (F : List Atom) (wd dp : Int) (g n c : Nat) (W : List Int) (hW : W.length = n) (hc : n ≤ c) (hn : n ≤ 1073741824) (hU : W32s W) (a : Int) (a0 : -9223372036854775808 ≤ a) (a1 : a ≤ 9223372036854775807) : CallK Try.prog 42 [.slice (some ⟨g, 0, none⟩) n c, .int .i64 a, .int .i64 wd, .int .i64 dp] w0 (Own 33 1 (.slice (some ⟨g, 0, none⟩) n c) n (ints .u32 W) :: F) (Gives w0 fun v F2 => ∃ la q c2 T th e, v = .tuple #[.slice la q c2, .bool th, .int .i64 e] ∧ F2 = Own 33 1 (.slice la q c2) q (ints .u32 T) :: Own 33 1 (.slice (some ⟨g, 0, none⟩) n c) n (ints .u32 W) :: F ∧ T.length = q ∧ (q = 0 ∨ ∃ g, la = some ⟨g, 0, none⟩) ∧ LookB W n a wd dp T th e) := by
  by_cases hq9 : QOk wd dp
  · obtain ⟨w, d, rfl, rfl, h1, h2, h3, h4⟩ := qok_nat hq9
    exact (rlookN w0 F w d h1 h2 h3 h4 g n c W hW hc hn hU a a0 a1).gmono fun v F2 ⟨la, q, c2, T, th, e, e1, e2, e3, e4, h⟩ => ⟨la, q, c2, T, th, e, e1, e2, e3, e4, .inr ⟨hq9, h⟩⟩
  · exact (rlook_bad w0 _ g n c wd dp a hq9).gany fun v F2 ⟨e1, e2⟩ w hw => ⟨_, ⟨none, 0, 0, [], false, 1, e1, rfl, rfl, .inl rfl, .inl ⟨hq9, rfl, rfl, rfl⟩⟩, fun w hw => by subst e2; exact hw.own_nil 33 1⟩
theorem takB (w0 : World) (F : List Atom) (wd dp : Int) (b g n c : Nat) (W : List Int) (hW : W.length = n) (hc : n ≤ c) (hn : n ≤ 1073741824) (hU : W32s W) (a : Int) (a0 : -9223372036854775808 ≤ a) (a1 : a ≤ 9223372036854775807) : CallK Try.prog 11 [.pointer (some ⟨b, 0, none⟩), .int .i64 a, .int .i64 wd, .int .i64 dp] w0 (Blk b (.cells [Value.slice (some ⟨g, 0, none⟩) n c].toArray 76 (0, 0)) :: Own 33 1 (.slice (some ⟨g, 0, none⟩) n c) n (ints .u32 W) :: F) (Gives w0 fun v F2 => ∃ ok e W2, v = .tuple #[.bool ok, .int .i64 e] ∧ F2 = Blk b (.cells [Value.slice (some ⟨g, 0, none⟩) n c].toArray 76 (0, 0)) :: Own 33 1 (.slice (some ⟨g, 0, none⟩) n c) n (ints .u32 W2) :: F ∧ TakB W n a wd dp ok e W2) := by
  by_cases hq9 : QOk wd dp
  · obtain ⟨w, d, rfl, rfl, h1, h2, h3, h4⟩ := qok_nat hq9
    exact (takN w0 F w d h1 h2 h3 h4 b g n c W hW hc hn hU a a0 a1).gmono fun v F2 ⟨ok, e, W2, e1, e2, h⟩ => ⟨ok, e, W2, e1, e2, .inr ⟨hq9, h⟩⟩
  · exact (takeq_bad w0 _ b wd dp a hq9).gmono fun v F2 ⟨e1, e2⟩ => ⟨false, 1, W, e1, e2, .inl ⟨hq9, rfl, rfl, rfl⟩⟩
theorem rtakB (w0 : World) (F : List Atom) (wd dp : Int) (g n c : Nat) (W : List Int) (hW : W.length = n) (hc : n ≤ c) (hn : n ≤ 1073741824) (hU : W32s W) (a : Int) (a0 : -9223372036854775808 ≤ a) (a1 : a ≤ 9223372036854775807) : CallK Try.prog 44 [.slice (some ⟨g, 0, none⟩) n c, .int .i64 a, .int .i64 wd, .int .i64 dp] w0 (Own 33 1 (.slice (some ⟨g, 0, none⟩) n c) n (ints .u32 W) :: F) (Gives w0 fun v F2 => ∃ g2 c2 ok e W2, v = .tuple #[.slice (some ⟨g2, 0, none⟩) n c2, .bool ok, .int .i64 e] ∧ n ≤ c2 ∧ F2 = Own 33 1 (.slice (some ⟨g2, 0, none⟩) n c2) n (ints .u32 W2) :: F ∧ TakB W n a wd dp ok e W2) := by
  by_cases hq9 : QOk wd dp
  · obtain ⟨w, d, rfl, rfl, h1, h2, h3, h4⟩ := qok_nat hq9
    exact (rtakN w0 F w d h1 h2 h3 h4 g n c W hW hc hn hU a a0 a1).gmono fun v F2 ⟨g2, c2, ok, e, W2, e1, e2, e3, h⟩ => ⟨g2, c2, ok, e, W2, e1, e2, e3, .inr ⟨hq9, h⟩⟩
  · exact (rtake_bad w0 _ g n c wd dp a hq9).gmono fun v F2 ⟨e1, e2⟩ => ⟨g, c, false, 1, W, e1, hc, e2, .inl ⟨hq9, rfl, rfl, rfl⟩⟩
theorem putB (w0 : World) (F : List Atom) (wd dp : Int) (b g n c : Nat) (W : List Int) (hW : W.length = n) (hc : n ≤ c) (hn : n ≤ 1073741824) (hU : W32s W) (a : Int) (a0 : -9223372036854775808 ≤ a) (a1 : a ≤ 9223372036854775807) (ma : Option Addr) (q qc : Nat) (M : List Int) (hM : IR w0 F .u32 ma q M) (hMU : W32s M) (hq : q ≤ 9223372036854775807) : CallK Try.prog 7 [.pointer (some ⟨b, 0, none⟩), .int .i64 a, .int .i64 wd, .int .i64 dp, .slice ma q qc] w0 (Blk b (.cells [Value.slice (some ⟨g, 0, none⟩) n c].toArray 76 (0, 0)) :: Own 33 1 (.slice (some ⟨g, 0, none⟩) n c) n (ints .u32 W) :: F) (Gives w0 fun v F2 => ∃ ok e W2, v = .tuple #[.bool ok, .int .i64 e] ∧ F2 = Blk b (.cells [Value.slice (some ⟨g, 0, none⟩) n c].toArray 76 (0, 0)) :: Own 33 1 (.slice (some ⟨g, 0, none⟩) n c) n (ints .u32 W2) :: F ∧ PutB W n a wd dp M ok e W2) := by
  by_cases hq9 : QOk wd dp
  · obtain ⟨w, d, rfl, rfl, h1, h2, h3, h4⟩ := qok_nat hq9
    exact (putN w0 F w d h1 h2 h3 h4 b g n c W hW hc hn hU a a0 a1 ma q qc M hM hMU hq).gmono fun v F2 ⟨ok, e, W2, e1, e2, h⟩ => ⟨ok, e, W2, e1, e2, .inr ⟨hq9, h⟩⟩
  · exact (put_bad w0 _ b wd dp a hq9 ma q qc).gmono fun v F2 ⟨e1, e2⟩ => ⟨false, 1, W, e1, e2, .inl ⟨hq9, rfl, rfl, rfl⟩⟩
theorem rputB (w0 : World) (F : List Atom) (wd dp : Int) (g n c : Nat) (W : List Int) (hW : W.length = n) (hc : n ≤ c) (hn : n ≤ 1073741824) (hU : W32s W) (a : Int) (a0 : -9223372036854775808 ≤ a) (a1 : a ≤ 9223372036854775807) (ma : Option Addr) (q qc : Nat) (M : List Int) (hM : IR w0 F .u32 ma q M) (hMU : W32s M) (hq : q ≤ 9223372036854775807) : CallK Try.prog 35 [.slice (some ⟨g, 0, none⟩) n c, .int .i64 a, .int .i64 wd, .int .i64 dp, .slice ma q qc] w0 (Own 33 1 (.slice (some ⟨g, 0, none⟩) n c) n (ints .u32 W) :: F) (Gives w0 fun v F2 => ∃ g2 c2 ok e W2, v = .tuple #[.slice (some ⟨g2, 0, none⟩) n c2, .bool ok, .int .i64 e] ∧ n ≤ c2 ∧ F2 = Own 33 1 (.slice (some ⟨g2, 0, none⟩) n c2) n (ints .u32 W2) :: F ∧ PutB W n a wd dp M ok e W2) := by
  by_cases hq9 : QOk wd dp
  · obtain ⟨w, d, rfl, rfl, h1, h2, h3, h4⟩ := qok_nat hq9
    exact (rputN w0 F w d h1 h2 h3 h4 g n c W hW hc hn hU a a0 a1 ma q qc M hM hMU hq).gmono fun v F2 ⟨g2, c2, ok, e, W2, e1, e2, e3, h⟩ => ⟨g2, c2, ok, e, W2, e1, e2, e3, .inr ⟨hq9, h⟩⟩
  · exact (rput_bad w0 _ g n c wd dp a hq9 ma q qc).gmono fun v F2 ⟨e1, e2⟩ => ⟨g, c, false, 1, W, e1, hc, e2, .inl ⟨hq9, rfl, rfl, rfl⟩⟩
theorem delB (w0 : World) (F : List Atom) (wd dp : Int) (b g n c : Nat) (W : List Int) (hW : W.length = n) (hc : n ≤ c) (hn : n ≤ 1073741824) (hU : W32s W) (a : Int) (a0 : -9223372036854775808 ≤ a) (a1 : a ≤ 9223372036854775807) (la : Option Addr) (ln lc : Nat) (L : List Int) (hL : IR w0 F .i64 la ln L) (hLb : ∀ i, -9223372036854775808 ≤ L.getD i 0 ∧ L.getD i 0 ≤ 9223372036854775807) (hln : ln ≤ 9223372036854775807) : CallK Try.prog 9 [.pointer (some ⟨b, 0, none⟩), .int .i64 a, .int .i64 wd, .int .i64 dp, .slice la ln lc] w0 (Blk b (.cells [Value.slice (some ⟨g, 0, none⟩) n c].toArray 76 (0, 0)) :: Own 33 1 (.slice (some ⟨g, 0, none⟩) n c) n (ints .u32 W) :: F) (Gives w0 fun v F2 => ∃ e W2, v = .int .i64 e ∧ F2 = Blk b (.cells [Value.slice (some ⟨g, 0, none⟩) n c].toArray 76 (0, 0)) :: Own 33 1 (.slice (some ⟨g, 0, none⟩) n c) n (ints .u32 W2) :: F ∧ DelB W n a wd dp L e W2) := by
  by_cases hq9 : QOk wd dp
  · obtain ⟨w, d, rfl, rfl, h1, h2, h3, h4⟩ := qok_nat hq9
    exact (pdel_ok w0 F w d h1 h2 h3 h4 b g n c W hW hc hn hU a a0 a1 la ln lc L hL hLb hln).gmono fun v F2 ⟨e, W2, e1, _, e2, h⟩ => ⟨e, W2, e1, e2, .inr ⟨hq9, h⟩⟩
  · exact (pdel_bad w0 _ b wd dp a hq9 la ln lc).gmono fun v F2 ⟨e1, e2⟩ => ⟨1, W, e1, e2, .inl ⟨hq9, rfl, rfl⟩⟩
theorem rdelB (w0 : World) (F : List Atom) (wd dp : Int) (g n c : Nat) (W : List Int) (hW : W.length = n) (hc : n ≤ c) (hn : n ≤ 1073741824) (hU : W32s W) (a : Int) (a0 : -9223372036854775808 ≤ a) (a1 : a ≤ 9223372036854775807) (la : Option Addr) (ln lc : Nat) (L : List Int) (hL : IR w0 F .i64 la ln L) (hLb : ∀ i, -9223372036854775808 ≤ L.getD i 0 ∧ L.getD i 0 ≤ 9223372036854775807) (hln : ln ≤ 9223372036854775807) : CallK Try.prog 40 [.slice (some ⟨g, 0, none⟩) n c, .int .i64 a, .int .i64 wd, .int .i64 dp, .slice la ln lc] w0 (Own 33 1 (.slice (some ⟨g, 0, none⟩) n c) n (ints .u32 W) :: F) (Gives w0 fun v F2 => ∃ g2 c2 e W2, v = .tuple #[.slice (some ⟨g2, 0, none⟩) n c2, .int .i64 e] ∧ n ≤ c2 ∧ F2 = Own 33 1 (.slice (some ⟨g2, 0, none⟩) n c2) n (ints .u32 W2) :: F ∧ DelB W n a wd dp L e W2) := by
  by_cases hq9 : QOk wd dp
  · obtain ⟨w, d, rfl, rfl, h1, h2, h3, h4⟩ := qok_nat hq9
    exact (rdel_ok w0 F w d h1 h2 h3 h4 g n c W hW hc hn hU a a0 a1 la ln lc L hL hLb hln).gmono fun v F2 ⟨g2, c2, e, W2, e1, e2, _, e3, h⟩ => ⟨g2, c2, e, W2, e1, e2, e3, .inr ⟨hq9, h⟩⟩
  · exact (rdel_bad w0 _ g n c wd dp a hq9 la ln lc).gmono fun v F2 ⟨e1, e2⟩ => ⟨g, c, 1, W, e1, hc, e2, .inl ⟨hq9, rfl, rfl⟩⟩
set_option maxHeartbeats 4000000 in
theorem rapart_ok (w0 : World) (F : List Atom) (wd dp : Nat) (w1 : 1 ≤ wd) (w2 : wd ≤ 16) (d1 : 1 ≤ dp) (d2 : dp ≤ 8) (st : Int) (la : Option Addr) (ln lc : Nat) (L : List Int) (hL : IR w0 F .i64 la ln L) (hln : ln ≤ 9223372036854775807) :
    CallK Try.prog 19 [.int .i64 st, .int .i64 (wd : Int), .int .i64 (dp : Int), .slice la ln lc] w0 (F) (Gives w0 fun v F2 => ∃ ok : Bool, v = .bool ok ∧ F2 = F) := by
  have hLn := hL.1
  refine c_enter Try.func19 rfl rfl rfl ?_
  refine g_seq ?_
  refine g_region ?_
  refine l_assign rfl rfl ?_
  refine l_nil ?_
  refine g_seq ?_
  refine g_seq ?_
  refine g_region ?_
  refine l_assign rfl rfl ?_
  refine l_nil ?_
  refine g_block ?_
  refine g_loopc (X := Int) [(0, _), (1, _), (2, _), (3, _)] (.cons rfl (.cons rfl (.cons rfl (.cons rfl (.nil))))) (fun i => 0 ≤ i ∧ i ≤ ln) (fun i => ((ln : Int) - i).toNat) (fun i => [(9, .int .i64 i)]) (0) (⟨by omega, by omega⟩) (.cons rfl .nil) ?_
  rintro i ⟨i0, i1⟩ ih
  dsimp only [List.cons_append, List.nil_append] at ih ⊢
  refine g_seq ?_
  refine g_seq ?_
  refine g_region ?_
  refine l_move rfl rfl ?_
  refine l_move rfl rfl ?_
  refine l_len rfl Try.underlying52 rfl ?_
  refine l_lss rfl rfl rfl ?_
  refine l_nil ?_
  refine g_cond rfl ?_ ?_
  · intro hbr
    have hbr := of_decide_eq_true hbr
    refine g_skip ?_
    refine g_seq ?_
    refine g_block ?_
    refine g_seq ?_
    refine g_seq ?_
    refine gp_start mo (by kernel_rfl) (by kernel_rfl) ?_
    obtain ⟨bL, oL, rfl, hrL⟩ := hL.some (i := i.toNat) (by omega)
    refine gp_quiet 0 rfl rfl rfl rfl rfl rfl (q_move rfl) ?_
    refine gp_quiet 1 rfl rfl rfl rfl rfl rfl (q_move rfl) ?_
    refine gp_quiet 2 rfl rfl rfl rfl rfl rfl (q_ixs Try.underlying52 Try.sizeOf3 rfl rfl (by omega) (by omega)) ?_
    refine gp_quiet 3 rfl rfl rfl rfl rfl rfl (q_loadc (v := .int .i64 (L.getD i.toNat 0)) Try.isAgg3 rfl (word_any hrL (by omega))) ?_
    refine gp_quiet 4 rfl rfl rfl rfl rfl rfl (q_move rfl) ?_
    refine gp_quiet 5 rfl rfl rfl rfl rfl rfl (q_move rfl) ?_
    refine gp_quiet 6 rfl rfl rfl rfl rfl rfl (q_move rfl) ?_
    refine gp_effa 7 [5, 6] [4, 3, 2, 1, 0] rfl rfl rfl rfl rfl rfl rfl (does_call Try.call32 rfl (stw_ok _ _ wd dp w1 w2 d1 d2)) ?_
    rintro _ F9 ⟨rfl, hF9⟩; rw [hF9]; clear hF9 F9
    refine ⟨?_, ?_⟩
    · refine .cons rfl rfl rfl rfl rfl (q_move rfl) ?_
      refine .cons rfl rfl rfl rfl rfl (q_loadc (v := .int .i64 (L.getD i.toNat 0)) Try.isAgg3 rfl (word_any hrL (by omega))) ?_
      refine .cons rfl rfl rfl rfl rfl (q_ixs Try.underlying52 Try.sizeOf3 rfl rfl (by omega) (by omega)) ?_
      refine .cons rfl rfl rfl rfl rfl (q_move rfl) ?_
      refine .cons rfl rfl rfl rfl rfl (q_move rfl) ?_
      exact .nil
    first | refine gp_quiet 8 rfl rfl rfl rfl rfl rfl (q_add rfl rfl (w_i64 (by omega) (by omega))) ?_ | refine gp_quiet 8 rfl rfl rfl rfl rfl rfl (q_addw rfl rfl) ?_
    refine gp_quiet 9 rfl rfl rfl rfl rfl rfl (q_lss rfl rfl) ?_
    refine gp_quiet 10 rfl rfl rfl rfl rfl rfl (q_move rfl) ?_
    refine gp_split 27 rfl ?_ ?_
    · intro hbr
      have hg27 := hbr
      have hbr := of_decide_eq_true hbr
      refine gp_quietg 11 rfl rfl rfl rfl rfl rfl (.yes rfl rfl (q_move rfl)) ?_
      refine gp_quietg 12 rfl rfl rfl rfl rfl rfl (.yes rfl rfl (q_move rfl)) ?_
      refine gp_quietg 13 rfl rfl rfl rfl rfl rfl (.yes rfl rfl (q_move rfl)) ?_
      refine gp_quietg 14 rfl rfl rfl rfl rfl rfl (.yes rfl rfl (q_ixs Try.underlying52 Try.sizeOf3 rfl rfl (by omega) (by omega))) ?_
      refine gp_quietg 15 rfl rfl rfl rfl rfl rfl (.yes rfl rfl (q_loadc (v := .int .i64 (L.getD i.toNat 0)) Try.isAgg3 rfl (word_any hrL (by omega)))) ?_
      refine gp_quietg 16 rfl rfl rfl rfl rfl rfl (.yes rfl rfl (q_move rfl)) ?_
      refine gp_quietg 17 rfl rfl rfl rfl rfl rfl (.yes rfl rfl (q_move rfl)) ?_
      refine gp_effg 18 rfl rfl rfl rfl rfl rfl (.yes rfl rfl rfl) (Does.guard (does_call Try.call33 rfl (ptw_ok _ _ wd dp w1 w2 d1 d2))) ?_
      rintro _ F9 ⟨rfl, hF9⟩; rw [hF9]; clear hF9 F9
      refine ⟨?_, ?_⟩
      · refine .consG rfl rfl rfl rfl rfl (.yes rfl rfl (q_move rfl)) ?_
        refine .consG rfl rfl rfl rfl rfl (.yes rfl rfl (q_move rfl)) ?_
        refine .consG rfl rfl rfl rfl rfl (.yes rfl rfl (q_loadc (v := .int .i64 (L.getD i.toNat 0)) Try.isAgg3 rfl (word_any hrL (by omega)))) ?_
        refine .consG rfl rfl rfl rfl rfl (.yes rfl rfl (q_ixs Try.underlying52 Try.sizeOf3 rfl rfl (by omega) (by omega))) ?_
        refine .consG rfl rfl rfl rfl rfl (.yes rfl rfl (q_move rfl)) ?_
        refine .consG rfl rfl rfl rfl rfl (.yes rfl rfl (q_move rfl)) ?_
        refine .consG rfl rfl rfl rfl rfl (.yes rfl rfl (q_move rfl)) ?_
        refine .cons rfl rfl rfl rfl rfl (QV.as (q_move rfl) (congrArg Value.bool hg27)) ?_
        refine .cons rfl rfl rfl rfl rfl (q_lss rfl rfl) ?_
        first | refine .cons rfl rfl rfl rfl rfl (q_add rfl rfl (w_i64 (by omega) (by omega))) ?_ | refine .cons rfl rfl rfl rfl rfl (q_addw rfl rfl) ?_
        refine .cons rfl rfl rfl rfl rfl (q_move rfl) ?_
        refine .cons rfl rfl rfl rfl rfl (q_loadc (v := .int .i64 (L.getD i.toNat 0)) Try.isAgg3 rfl (word_any hrL (by omega))) ?_
        refine .cons rfl rfl rfl rfl rfl (q_ixs Try.underlying52 Try.sizeOf3 rfl rfl (by omega) (by omega)) ?_
        refine .cons rfl rfl rfl rfl rfl (q_move rfl) ?_
        refine .cons rfl rfl rfl rfl rfl (q_move rfl) ?_
        exact .nil
      first | refine gp_quietg 19 rfl rfl rfl rfl rfl rfl (.yes rfl rfl (q_add rfl rfl (w_i64 (by omega) (by omega)))) ?_ | refine gp_quietg 19 rfl rfl rfl rfl rfl rfl (.yes rfl rfl (q_addw rfl rfl)) ?_
      refine gp_quietg 20 rfl rfl rfl rfl rfl rfl (.yes rfl rfl (q_lss rfl rfl)) ?_
      refine gp_quiet 21 rfl rfl rfl rfl rfl rfl (q_pick_t rfl rfl) ?_
      refine gp_end rfl rfl ?_
      refine g_cond rfl ?_ ?_
      · intro hbr
        have hbr := of_decide_eq_true hbr
        refine g_seq ?_
        refine g_region ?_
        refine l_assign rfl rfl ?_
        refine l_nil ?_
        refine g_ret Try.func19 rfl (.tmp rfl .nil) ?_
        exact Gives.mki ⟨_, rfl, rfl⟩
      intro hbr
      have hbr := of_decide_eq_false hbr
      refine g_skip ?_
      refine g_seq ?_
      refine g_region ?_
      refine l_assign rfl rfl ?_
      refine l_nil ?_
      refine g_block ?_
      refine g_loopc (X := Int) [(0, _), (1, _), (2, _), (3, _), (9, _), (11, _), (12, _), (13, _), (14, _), (17, _), (18, _), (19, _), (20, _), (21, _), (22, _), (23, _), (24, _), (25, _), (26, _), (27, _), (28, _), (29, _), (30, _), (31, _), (32, _), (33, _), (34, _), (35, _), (36, _), (37, _), (38, _)] (.cons rfl (.cons rfl (.cons rfl (.cons rfl (.cons rfl (.cons rfl (.cons rfl (.cons rfl (.cons rfl (.cons rfl (.cons rfl (.cons rfl (.cons rfl (.cons rfl (.cons rfl (.cons rfl (.cons rfl (.cons rfl (.cons rfl (.cons rfl (.cons rfl (.cons rfl (.cons rfl (.cons rfl (.cons rfl (.cons rfl (.cons rfl (.cons rfl (.cons rfl (.cons rfl (.cons rfl (.nil)))))))))))))))))))))))))))))))) (fun k => 0 ≤ k ∧ k ≤ i) (fun k => (i - k).toNat) (fun k => [(10, .int .i64 k)]) (0) (⟨by omega, by omega⟩) (.cons rfl .nil) ?_
      rintro k ⟨k0, k1⟩ ihk
      dsimp only [List.cons_append, List.nil_append] at ihk ⊢
      refine g_seq ?_
      refine g_seq ?_
      refine g_region ?_
      refine l_move rfl rfl ?_
      refine l_move rfl rfl ?_
      refine l_lss rfl rfl rfl ?_
      refine l_nil ?_
      refine g_cond rfl ?_ ?_
      · intro hbr
        have hbr := of_decide_eq_true hbr
        refine g_skip ?_
        refine g_seq ?_
        refine g_block ?_
        refine g_seq ?_
        refine gp_start mo (by kernel_rfl) (by kernel_rfl) ?_
        refine gp_quiet 0 rfl rfl rfl rfl rfl rfl (q_move rfl) ?_
        refine gp_quiet 1 rfl rfl rfl rfl rfl rfl (q_move rfl) ?_
        refine gp_quiet 2 rfl rfl rfl rfl rfl rfl (q_ixs Try.underlying52 Try.sizeOf3 rfl rfl (by omega) (by omega)) ?_
        refine gp_quiet 3 rfl rfl rfl rfl rfl rfl (q_loadc (v := .int .i64 (L.getD i.toNat 0)) Try.isAgg3 rfl (word_any hrL (by omega))) ?_
        refine gp_quiet 4 rfl rfl rfl rfl rfl rfl (q_move rfl) ?_
        refine gp_quiet 5 rfl rfl rfl rfl rfl rfl (q_move rfl) ?_
        refine gp_quiet 6 rfl rfl rfl rfl rfl rfl (q_ixs Try.underlying52 Try.sizeOf3 rfl rfl (by omega) (by omega)) ?_
        refine gp_quiet 7 rfl rfl rfl rfl rfl rfl (q_loadc (v := .int .i64 (L.getD k.toNat 0)) Try.isAgg3 rfl (word_any hrL (by omega))) ?_
        refine gp_quiet 8 rfl rfl rfl rfl rfl rfl (q_move rfl) ?_
        refine gp_quiet 9 rfl rfl rfl rfl rfl rfl (q_move rfl) ?_
        refine gp_effa 10 [8, 9] [7, 6, 5, 4, 3, 2, 1, 0] rfl rfl rfl rfl rfl rfl rfl (does_call Try.call33 rfl (ptw_ok _ _ wd dp w1 w2 d1 d2)) ?_
        rintro _ F9 ⟨rfl, hF9⟩; rw [hF9]; clear hF9 F9
        refine ⟨?_, ?_⟩
        · refine .cons rfl rfl rfl rfl rfl (q_loadc (v := .int .i64 (L.getD k.toNat 0)) Try.isAgg3 rfl (word_any hrL (by omega))) ?_
          refine .cons rfl rfl rfl rfl rfl (q_ixs Try.underlying52 Try.sizeOf3 rfl rfl (by omega) (by omega)) ?_
          refine .cons rfl rfl rfl rfl rfl (q_move rfl) ?_
          refine .cons rfl rfl rfl rfl rfl (q_move rfl) ?_
          refine .cons rfl rfl rfl rfl rfl (q_loadc (v := .int .i64 (L.getD i.toNat 0)) Try.isAgg3 rfl (word_any hrL (by omega))) ?_
          refine .cons rfl rfl rfl rfl rfl (q_ixs Try.underlying52 Try.sizeOf3 rfl rfl (by omega) (by omega)) ?_
          refine .cons rfl rfl rfl rfl rfl (q_move rfl) ?_
          refine .cons rfl rfl rfl rfl rfl (q_move rfl) ?_
          exact .nil
        first | refine gp_quiet 11 rfl rfl rfl rfl rfl rfl (q_add rfl rfl (w_i64 (by omega) (by omega))) ?_ | refine gp_quiet 11 rfl rfl rfl rfl rfl rfl (q_addw rfl rfl) ?_
        refine gp_quiet 12 rfl rfl rfl rfl rfl rfl (q_lss rfl rfl) ?_
        refine gp_quiet 13 rfl rfl rfl rfl rfl rfl (q_move rfl) ?_
        refine gp_split 57 rfl ?_ ?_
        · intro hbr
          have hg57 := hbr
          have hbr := of_decide_eq_true hbr
          refine gp_quietg 14 rfl rfl rfl rfl rfl rfl (.yes rfl rfl (q_move rfl)) ?_
          refine gp_quietg 15 rfl rfl rfl rfl rfl rfl (.yes rfl rfl (q_move rfl)) ?_
          refine gp_quietg 16 rfl rfl rfl rfl rfl rfl (.yes rfl rfl (q_ixs Try.underlying52 Try.sizeOf3 rfl rfl (by omega) (by omega))) ?_
          refine gp_quietg 17 rfl rfl rfl rfl rfl rfl (.yes rfl rfl (q_loadc (v := .int .i64 (L.getD k.toNat 0)) Try.isAgg3 rfl (word_any hrL (by omega)))) ?_
          refine gp_quietg 18 rfl rfl rfl rfl rfl rfl (.yes rfl rfl (q_move rfl)) ?_
          refine gp_quietg 19 rfl rfl rfl rfl rfl rfl (.yes rfl rfl (q_move rfl)) ?_
          refine gp_quietg 20 rfl rfl rfl rfl rfl rfl (.yes rfl rfl (q_ixs Try.underlying52 Try.sizeOf3 rfl rfl (by omega) (by omega))) ?_
          refine gp_quietg 21 rfl rfl rfl rfl rfl rfl (.yes rfl rfl (q_loadc (v := .int .i64 (L.getD i.toNat 0)) Try.isAgg3 rfl (word_any hrL (by omega)))) ?_
          refine gp_quietg 22 rfl rfl rfl rfl rfl rfl (.yes rfl rfl (q_move rfl)) ?_
          refine gp_quietg 23 rfl rfl rfl rfl rfl rfl (.yes rfl rfl (q_move rfl)) ?_
          refine gp_effg 24 rfl rfl rfl rfl rfl rfl (.yes rfl rfl rfl) (Does.guard (does_call Try.call33 rfl (ptw_ok _ _ wd dp w1 w2 d1 d2))) ?_
          rintro _ F9 ⟨rfl, hF9⟩; rw [hF9]; clear hF9 F9
          refine ⟨?_, ?_⟩
          · refine .consG rfl rfl rfl rfl rfl (.yes rfl rfl (q_move rfl)) ?_
            refine .consG rfl rfl rfl rfl rfl (.yes rfl rfl (q_move rfl)) ?_
            refine .consG rfl rfl rfl rfl rfl (.yes rfl rfl (q_loadc (v := .int .i64 (L.getD i.toNat 0)) Try.isAgg3 rfl (word_any hrL (by omega)))) ?_
            refine .consG rfl rfl rfl rfl rfl (.yes rfl rfl (q_ixs Try.underlying52 Try.sizeOf3 rfl rfl (by omega) (by omega))) ?_
            refine .consG rfl rfl rfl rfl rfl (.yes rfl rfl (q_move rfl)) ?_
            refine .consG rfl rfl rfl rfl rfl (.yes rfl rfl (q_move rfl)) ?_
            refine .consG rfl rfl rfl rfl rfl (.yes rfl rfl (q_loadc (v := .int .i64 (L.getD k.toNat 0)) Try.isAgg3 rfl (word_any hrL (by omega)))) ?_
            refine .consG rfl rfl rfl rfl rfl (.yes rfl rfl (q_ixs Try.underlying52 Try.sizeOf3 rfl rfl (by omega) (by omega))) ?_
            refine .consG rfl rfl rfl rfl rfl (.yes rfl rfl (q_move rfl)) ?_
            refine .consG rfl rfl rfl rfl rfl (.yes rfl rfl (q_move rfl)) ?_
            refine .cons rfl rfl rfl rfl rfl (QV.as (q_move rfl) (congrArg Value.bool hg57)) ?_
            refine .cons rfl rfl rfl rfl rfl (q_lss rfl rfl) ?_
            first | refine .cons rfl rfl rfl rfl rfl (q_add rfl rfl (w_i64 (by omega) (by omega))) ?_ | refine .cons rfl rfl rfl rfl rfl (q_addw rfl rfl) ?_
            refine .cons rfl rfl rfl rfl rfl (q_loadc (v := .int .i64 (L.getD k.toNat 0)) Try.isAgg3 rfl (word_any hrL (by omega))) ?_
            refine .cons rfl rfl rfl rfl rfl (q_ixs Try.underlying52 Try.sizeOf3 rfl rfl (by omega) (by omega)) ?_
            refine .cons rfl rfl rfl rfl rfl (q_move rfl) ?_
            refine .cons rfl rfl rfl rfl rfl (q_move rfl) ?_
            refine .cons rfl rfl rfl rfl rfl (q_loadc (v := .int .i64 (L.getD i.toNat 0)) Try.isAgg3 rfl (word_any hrL (by omega))) ?_
            refine .cons rfl rfl rfl rfl rfl (q_ixs Try.underlying52 Try.sizeOf3 rfl rfl (by omega) (by omega)) ?_
            refine .cons rfl rfl rfl rfl rfl (q_move rfl) ?_
            refine .cons rfl rfl rfl rfl rfl (q_move rfl) ?_
            exact .nil
          first | refine gp_quietg 25 rfl rfl rfl rfl rfl rfl (.yes rfl rfl (q_add rfl rfl (w_i64 (by omega) (by omega)))) ?_ | refine gp_quietg 25 rfl rfl rfl rfl rfl rfl (.yes rfl rfl (q_addw rfl rfl)) ?_
          refine gp_quietg 26 rfl rfl rfl rfl rfl rfl (.yes rfl rfl (q_lss rfl rfl)) ?_
          refine gp_quiet 27 rfl rfl rfl rfl rfl rfl (q_pick_t rfl rfl) ?_
          refine gp_end rfl rfl ?_
          refine g_cond rfl ?_ ?_
          · intro hbr
            have hbr := of_decide_eq_true hbr
            refine g_seq ?_
            refine g_region ?_
            refine l_assign rfl rfl ?_
            refine l_nil ?_
            refine g_ret Try.func19 rfl (.tmp rfl .nil) ?_
            exact Gives.mki ⟨_, rfl, rfl⟩
          intro hbr
          have hbr := of_decide_eq_false hbr
          refine g_skip ?_
          refine g_inBlock ?_
          refine g_region ?_
          refine l_move rfl rfl ?_
          first | refine l_add rfl rfl rfl (w_i64 (by omega) (by omega)) ?_ | refine l_addw rfl rfl rfl ?_
          refine l_assign rfl rfl ?_
          refine l_nil ?_
          exact g_againi (ihk (k + 1) ⟨by omega, by omega⟩ (by omega)) (.cons rfl (.cons rfl (.cons rfl (.cons rfl (.cons rfl (.cons rfl (.cons rfl (.cons rfl (.cons rfl (.cons rfl (.cons rfl (.cons rfl (.cons rfl (.cons rfl (.cons rfl (.cons rfl (.cons rfl (.cons rfl (.cons rfl (.cons rfl (.cons rfl (.cons rfl (.cons rfl (.cons rfl (.cons rfl (.cons rfl (.cons rfl (.cons rfl (.cons rfl (.cons rfl (.cons rfl (.cons rfl (.nil)))))))))))))))))))))))))))))))))
        intro hbr
        have hg57 := hbr
        have hbr := of_decide_eq_false hbr
        refine gp_quietg 14 rfl rfl rfl rfl rfl rfl (.no rfl rfl) ?_
        refine gp_quietg 15 rfl rfl rfl rfl rfl rfl (.no rfl rfl) ?_
        refine gp_quietg 16 rfl rfl rfl rfl rfl rfl (.no rfl rfl) ?_
        refine gp_quietg 17 rfl rfl rfl rfl rfl rfl (.no rfl rfl) ?_
        refine gp_quietg 18 rfl rfl rfl rfl rfl rfl (.no rfl rfl) ?_
        refine gp_quietg 19 rfl rfl rfl rfl rfl rfl (.no rfl rfl) ?_
        refine gp_quietg 20 rfl rfl rfl rfl rfl rfl (.no rfl rfl) ?_
        refine gp_quietg 21 rfl rfl rfl rfl rfl rfl (.no rfl rfl) ?_
        refine gp_quietg 22 rfl rfl rfl rfl rfl rfl (.no rfl rfl) ?_
        refine gp_quietg 23 rfl rfl rfl rfl rfl rfl (.no rfl rfl) ?_
        refine gp_quietg 24 rfl rfl rfl rfl rfl rfl (.no rfl rfl) ?_
        refine gp_quietg 25 rfl rfl rfl rfl rfl rfl (.no rfl rfl) ?_
        refine gp_quietg 26 rfl rfl rfl rfl rfl rfl (.no rfl rfl) ?_
        refine gp_quiet 27 rfl rfl rfl rfl rfl rfl (q_pick_f rfl rfl) ?_
        refine gp_end rfl rfl ?_
        first | refine g_cond_f rfl ?_ | refine g_cond_f (congrArg (fun b => some (Value.bool b)) (decide_eq_false hbr)) ?_
        refine g_skip ?_
        refine g_inBlock ?_
        refine g_region ?_
        refine l_move rfl rfl ?_
        first | refine l_add rfl rfl rfl (w_i64 (by omega) (by omega)) ?_ | refine l_addw rfl rfl rfl ?_
        refine l_assign rfl rfl ?_
        refine l_nil ?_
        exact g_againi (ihk (k + 1) ⟨by omega, by omega⟩ (by omega)) (.cons rfl (.cons rfl (.cons rfl (.cons rfl (.cons rfl (.cons rfl (.cons rfl (.cons rfl (.cons rfl (.cons rfl (.cons rfl (.cons rfl (.cons rfl (.cons rfl (.cons rfl (.cons rfl (.cons rfl (.cons rfl (.cons rfl (.cons rfl (.cons rfl (.cons rfl (.cons rfl (.cons rfl (.cons rfl (.cons rfl (.cons rfl (.cons rfl (.cons rfl (.cons rfl (.cons rfl (.cons rfl (.nil)))))))))))))))))))))))))))))))))
      intro hbr
      have hbr := of_decide_eq_false hbr
      refine g_exit rfl ?_
      refine g_inBlock ?_
      refine g_region ?_
      refine l_move rfl rfl ?_
      first | refine l_add rfl rfl rfl (w_i64 (by omega) (by omega)) ?_ | refine l_addw rfl rfl rfl ?_
      refine l_assign rfl rfl ?_
      refine l_nil ?_
      exact g_againi (ih (i + 1) ⟨by omega, by omega⟩ (by omega)) (.cons rfl (.cons rfl (.cons rfl (.cons rfl (.cons rfl (.nil))))))
    intro hbr
    have hg27 := hbr
    have hbr := of_decide_eq_false hbr
    refine gp_quietg 11 rfl rfl rfl rfl rfl rfl (.no rfl rfl) ?_
    refine gp_quietg 12 rfl rfl rfl rfl rfl rfl (.no rfl rfl) ?_
    refine gp_quietg 13 rfl rfl rfl rfl rfl rfl (.no rfl rfl) ?_
    refine gp_quietg 14 rfl rfl rfl rfl rfl rfl (.no rfl rfl) ?_
    refine gp_quietg 15 rfl rfl rfl rfl rfl rfl (.no rfl rfl) ?_
    refine gp_quietg 16 rfl rfl rfl rfl rfl rfl (.no rfl rfl) ?_
    refine gp_quietg 17 rfl rfl rfl rfl rfl rfl (.no rfl rfl) ?_
    refine gp_quietg 18 rfl rfl rfl rfl rfl rfl (.no rfl rfl) ?_
    refine gp_quietg 19 rfl rfl rfl rfl rfl rfl (.no rfl rfl) ?_
    refine gp_quietg 20 rfl rfl rfl rfl rfl rfl (.no rfl rfl) ?_
    refine gp_quiet 21 rfl rfl rfl rfl rfl rfl (q_pick_f rfl rfl) ?_
    refine gp_end rfl rfl ?_
    first | refine g_cond_f rfl ?_ | refine g_cond_f (congrArg (fun b => some (Value.bool b)) (decide_eq_false hbr)) ?_
    refine g_skip ?_
    refine g_seq ?_
    refine g_region ?_
    refine l_assign rfl rfl ?_
    refine l_nil ?_
    refine g_block ?_
    refine g_loopc (X := Int) [(0, _), (1, _), (2, _), (3, _), (9, _), (11, _), (12, _), (13, _), (14, _), (17, _), (18, _), (19, _), (20, _), (21, _), (22, _), (23, _), (24, _), (25, _), (26, _), (27, _), (38, _)] (.cons rfl (.cons rfl (.cons rfl (.cons rfl (.cons rfl (.cons rfl (.cons rfl (.cons rfl (.cons rfl (.cons rfl (.cons rfl (.cons rfl (.cons rfl (.cons rfl (.cons rfl (.cons rfl (.cons rfl (.cons rfl (.cons rfl (.cons rfl (.cons rfl (.nil)))))))))))))))))))))) (fun k => 0 ≤ k ∧ k ≤ i) (fun k => (i - k).toNat) (fun k => [(10, .int .i64 k)]) (0) (⟨by omega, by omega⟩) (.cons rfl .nil) ?_
    rintro k ⟨k0, k1⟩ ihk
    dsimp only [List.cons_append, List.nil_append] at ihk ⊢
    refine g_seq ?_
    refine g_seq ?_
    refine g_region ?_
    refine l_move rfl rfl ?_
    refine l_move rfl rfl ?_
    refine l_lss rfl rfl rfl ?_
    refine l_nil ?_
    refine g_cond rfl ?_ ?_
    · intro hbr
      have hbr := of_decide_eq_true hbr
      refine g_skip ?_
      refine g_seq ?_
      refine g_block ?_
      refine g_seq ?_
      refine gp_start mo (by kernel_rfl) (by kernel_rfl) ?_
      refine gp_quiet 0 rfl rfl rfl rfl rfl rfl (q_move rfl) ?_
      refine gp_quiet 1 rfl rfl rfl rfl rfl rfl (q_move rfl) ?_
      refine gp_quiet 2 rfl rfl rfl rfl rfl rfl (q_ixs Try.underlying52 Try.sizeOf3 rfl rfl (by omega) (by omega)) ?_
      refine gp_quiet 3 rfl rfl rfl rfl rfl rfl (q_loadc (v := .int .i64 (L.getD i.toNat 0)) Try.isAgg3 rfl (word_any hrL (by omega))) ?_
      refine gp_quiet 4 rfl rfl rfl rfl rfl rfl (q_move rfl) ?_
      refine gp_quiet 5 rfl rfl rfl rfl rfl rfl (q_move rfl) ?_
      refine gp_quiet 6 rfl rfl rfl rfl rfl rfl (q_ixs Try.underlying52 Try.sizeOf3 rfl rfl (by omega) (by omega)) ?_
      refine gp_quiet 7 rfl rfl rfl rfl rfl rfl (q_loadc (v := .int .i64 (L.getD k.toNat 0)) Try.isAgg3 rfl (word_any hrL (by omega))) ?_
      refine gp_quiet 8 rfl rfl rfl rfl rfl rfl (q_move rfl) ?_
      refine gp_quiet 9 rfl rfl rfl rfl rfl rfl (q_move rfl) ?_
      refine gp_effa 10 [8, 9] [7, 6, 5, 4, 3, 2, 1, 0] rfl rfl rfl rfl rfl rfl rfl (does_call Try.call33 rfl (ptw_ok _ _ wd dp w1 w2 d1 d2)) ?_
      rintro _ F9 ⟨rfl, hF9⟩; rw [hF9]; clear hF9 F9
      refine ⟨?_, ?_⟩
      · refine .cons rfl rfl rfl rfl rfl (q_loadc (v := .int .i64 (L.getD k.toNat 0)) Try.isAgg3 rfl (word_any hrL (by omega))) ?_
        refine .cons rfl rfl rfl rfl rfl (q_ixs Try.underlying52 Try.sizeOf3 rfl rfl (by omega) (by omega)) ?_
        refine .cons rfl rfl rfl rfl rfl (q_move rfl) ?_
        refine .cons rfl rfl rfl rfl rfl (q_move rfl) ?_
        refine .cons rfl rfl rfl rfl rfl (q_loadc (v := .int .i64 (L.getD i.toNat 0)) Try.isAgg3 rfl (word_any hrL (by omega))) ?_
        refine .cons rfl rfl rfl rfl rfl (q_ixs Try.underlying52 Try.sizeOf3 rfl rfl (by omega) (by omega)) ?_
        refine .cons rfl rfl rfl rfl rfl (q_move rfl) ?_
        refine .cons rfl rfl rfl rfl rfl (q_move rfl) ?_
        exact .nil
      first | refine gp_quiet 11 rfl rfl rfl rfl rfl rfl (q_add rfl rfl (w_i64 (by omega) (by omega))) ?_ | refine gp_quiet 11 rfl rfl rfl rfl rfl rfl (q_addw rfl rfl) ?_
      refine gp_quiet 12 rfl rfl rfl rfl rfl rfl (q_lss rfl rfl) ?_
      refine gp_quiet 13 rfl rfl rfl rfl rfl rfl (q_move rfl) ?_
      refine gp_split 57 rfl ?_ ?_
      · intro hbr
        have hg57 := hbr
        have hbr := of_decide_eq_true hbr
        refine gp_quietg 14 rfl rfl rfl rfl rfl rfl (.yes rfl rfl (q_move rfl)) ?_
        refine gp_quietg 15 rfl rfl rfl rfl rfl rfl (.yes rfl rfl (q_move rfl)) ?_
        refine gp_quietg 16 rfl rfl rfl rfl rfl rfl (.yes rfl rfl (q_ixs Try.underlying52 Try.sizeOf3 rfl rfl (by omega) (by omega))) ?_
        refine gp_quietg 17 rfl rfl rfl rfl rfl rfl (.yes rfl rfl (q_loadc (v := .int .i64 (L.getD k.toNat 0)) Try.isAgg3 rfl (word_any hrL (by omega)))) ?_
        refine gp_quietg 18 rfl rfl rfl rfl rfl rfl (.yes rfl rfl (q_move rfl)) ?_
        refine gp_quietg 19 rfl rfl rfl rfl rfl rfl (.yes rfl rfl (q_move rfl)) ?_
        refine gp_quietg 20 rfl rfl rfl rfl rfl rfl (.yes rfl rfl (q_ixs Try.underlying52 Try.sizeOf3 rfl rfl (by omega) (by omega))) ?_
        refine gp_quietg 21 rfl rfl rfl rfl rfl rfl (.yes rfl rfl (q_loadc (v := .int .i64 (L.getD i.toNat 0)) Try.isAgg3 rfl (word_any hrL (by omega)))) ?_
        refine gp_quietg 22 rfl rfl rfl rfl rfl rfl (.yes rfl rfl (q_move rfl)) ?_
        refine gp_quietg 23 rfl rfl rfl rfl rfl rfl (.yes rfl rfl (q_move rfl)) ?_
        refine gp_effg 24 rfl rfl rfl rfl rfl rfl (.yes rfl rfl rfl) (Does.guard (does_call Try.call33 rfl (ptw_ok _ _ wd dp w1 w2 d1 d2))) ?_
        rintro _ F9 ⟨rfl, hF9⟩; rw [hF9]; clear hF9 F9
        refine ⟨?_, ?_⟩
        · refine .consG rfl rfl rfl rfl rfl (.yes rfl rfl (q_move rfl)) ?_
          refine .consG rfl rfl rfl rfl rfl (.yes rfl rfl (q_move rfl)) ?_
          refine .consG rfl rfl rfl rfl rfl (.yes rfl rfl (q_loadc (v := .int .i64 (L.getD i.toNat 0)) Try.isAgg3 rfl (word_any hrL (by omega)))) ?_
          refine .consG rfl rfl rfl rfl rfl (.yes rfl rfl (q_ixs Try.underlying52 Try.sizeOf3 rfl rfl (by omega) (by omega))) ?_
          refine .consG rfl rfl rfl rfl rfl (.yes rfl rfl (q_move rfl)) ?_
          refine .consG rfl rfl rfl rfl rfl (.yes rfl rfl (q_move rfl)) ?_
          refine .consG rfl rfl rfl rfl rfl (.yes rfl rfl (q_loadc (v := .int .i64 (L.getD k.toNat 0)) Try.isAgg3 rfl (word_any hrL (by omega)))) ?_
          refine .consG rfl rfl rfl rfl rfl (.yes rfl rfl (q_ixs Try.underlying52 Try.sizeOf3 rfl rfl (by omega) (by omega))) ?_
          refine .consG rfl rfl rfl rfl rfl (.yes rfl rfl (q_move rfl)) ?_
          refine .consG rfl rfl rfl rfl rfl (.yes rfl rfl (q_move rfl)) ?_
          refine .cons rfl rfl rfl rfl rfl (QV.as (q_move rfl) (congrArg Value.bool hg57)) ?_
          refine .cons rfl rfl rfl rfl rfl (q_lss rfl rfl) ?_
          first | refine .cons rfl rfl rfl rfl rfl (q_add rfl rfl (w_i64 (by omega) (by omega))) ?_ | refine .cons rfl rfl rfl rfl rfl (q_addw rfl rfl) ?_
          refine .cons rfl rfl rfl rfl rfl (q_loadc (v := .int .i64 (L.getD k.toNat 0)) Try.isAgg3 rfl (word_any hrL (by omega))) ?_
          refine .cons rfl rfl rfl rfl rfl (q_ixs Try.underlying52 Try.sizeOf3 rfl rfl (by omega) (by omega)) ?_
          refine .cons rfl rfl rfl rfl rfl (q_move rfl) ?_
          refine .cons rfl rfl rfl rfl rfl (q_move rfl) ?_
          refine .cons rfl rfl rfl rfl rfl (q_loadc (v := .int .i64 (L.getD i.toNat 0)) Try.isAgg3 rfl (word_any hrL (by omega))) ?_
          refine .cons rfl rfl rfl rfl rfl (q_ixs Try.underlying52 Try.sizeOf3 rfl rfl (by omega) (by omega)) ?_
          refine .cons rfl rfl rfl rfl rfl (q_move rfl) ?_
          refine .cons rfl rfl rfl rfl rfl (q_move rfl) ?_
          exact .nil
        first | refine gp_quietg 25 rfl rfl rfl rfl rfl rfl (.yes rfl rfl (q_add rfl rfl (w_i64 (by omega) (by omega)))) ?_ | refine gp_quietg 25 rfl rfl rfl rfl rfl rfl (.yes rfl rfl (q_addw rfl rfl)) ?_
        refine gp_quietg 26 rfl rfl rfl rfl rfl rfl (.yes rfl rfl (q_lss rfl rfl)) ?_
        refine gp_quiet 27 rfl rfl rfl rfl rfl rfl (q_pick_t rfl rfl) ?_
        refine gp_end rfl rfl ?_
        refine g_cond rfl ?_ ?_
        · intro hbr
          have hbr := of_decide_eq_true hbr
          refine g_seq ?_
          refine g_region ?_
          refine l_assign rfl rfl ?_
          refine l_nil ?_
          refine g_ret Try.func19 rfl (.tmp rfl .nil) ?_
          exact Gives.mki ⟨_, rfl, rfl⟩
        intro hbr
        have hbr := of_decide_eq_false hbr
        refine g_skip ?_
        refine g_inBlock ?_
        refine g_region ?_
        refine l_move rfl rfl ?_
        first | refine l_add rfl rfl rfl (w_i64 (by omega) (by omega)) ?_ | refine l_addw rfl rfl rfl ?_
        refine l_assign rfl rfl ?_
        refine l_nil ?_
        exact g_againi (ihk (k + 1) ⟨by omega, by omega⟩ (by omega)) (.cons rfl (.cons rfl (.cons rfl (.cons rfl (.cons rfl (.cons rfl (.cons rfl (.cons rfl (.cons rfl (.cons rfl (.cons rfl (.cons rfl (.cons rfl (.cons rfl (.cons rfl (.cons rfl (.cons rfl (.cons rfl (.cons rfl (.cons rfl (.cons rfl (.cons rfl (.nil)))))))))))))))))))))))
      intro hbr
      have hg57 := hbr
      have hbr := of_decide_eq_false hbr
      refine gp_quietg 14 rfl rfl rfl rfl rfl rfl (.no rfl rfl) ?_
      refine gp_quietg 15 rfl rfl rfl rfl rfl rfl (.no rfl rfl) ?_
      refine gp_quietg 16 rfl rfl rfl rfl rfl rfl (.no rfl rfl) ?_
      refine gp_quietg 17 rfl rfl rfl rfl rfl rfl (.no rfl rfl) ?_
      refine gp_quietg 18 rfl rfl rfl rfl rfl rfl (.no rfl rfl) ?_
      refine gp_quietg 19 rfl rfl rfl rfl rfl rfl (.no rfl rfl) ?_
      refine gp_quietg 20 rfl rfl rfl rfl rfl rfl (.no rfl rfl) ?_
      refine gp_quietg 21 rfl rfl rfl rfl rfl rfl (.no rfl rfl) ?_
      refine gp_quietg 22 rfl rfl rfl rfl rfl rfl (.no rfl rfl) ?_
      refine gp_quietg 23 rfl rfl rfl rfl rfl rfl (.no rfl rfl) ?_
      refine gp_quietg 24 rfl rfl rfl rfl rfl rfl (.no rfl rfl) ?_
      refine gp_quietg 25 rfl rfl rfl rfl rfl rfl (.no rfl rfl) ?_
      refine gp_quietg 26 rfl rfl rfl rfl rfl rfl (.no rfl rfl) ?_
      refine gp_quiet 27 rfl rfl rfl rfl rfl rfl (q_pick_f rfl rfl) ?_
      refine gp_end rfl rfl ?_
      first | refine g_cond_f rfl ?_ | refine g_cond_f (congrArg (fun b => some (Value.bool b)) (decide_eq_false hbr)) ?_
      refine g_skip ?_
      refine g_inBlock ?_
      refine g_region ?_
      refine l_move rfl rfl ?_
      first | refine l_add rfl rfl rfl (w_i64 (by omega) (by omega)) ?_ | refine l_addw rfl rfl rfl ?_
      refine l_assign rfl rfl ?_
      refine l_nil ?_
      exact g_againi (ihk (k + 1) ⟨by omega, by omega⟩ (by omega)) (.cons rfl (.cons rfl (.cons rfl (.cons rfl (.cons rfl (.cons rfl (.cons rfl (.cons rfl (.cons rfl (.cons rfl (.cons rfl (.cons rfl (.cons rfl (.cons rfl (.cons rfl (.cons rfl (.cons rfl (.cons rfl (.cons rfl (.cons rfl (.cons rfl (.cons rfl (.nil)))))))))))))))))))))))
    intro hbr
    have hbr := of_decide_eq_false hbr
    refine g_exit rfl ?_
    refine g_inBlock ?_
    refine g_region ?_
    refine l_move rfl rfl ?_
    first | refine l_add rfl rfl rfl (w_i64 (by omega) (by omega)) ?_ | refine l_addw rfl rfl rfl ?_
    refine l_assign rfl rfl ?_
    refine l_nil ?_
    exact g_againi (ih (i + 1) ⟨by omega, by omega⟩ (by omega)) (.cons rfl (.cons rfl (.cons rfl (.cons rfl (.cons rfl (.nil))))))
  intro hbr
  have hbr := of_decide_eq_false hbr
  refine g_exit rfl ?_
  refine g_seq ?_
  refine g_region ?_
  refine l_assign rfl rfl ?_
  refine l_nil ?_
  refine g_ret Try.func19 rfl (.tmp rfl .nil) ?_
  exact Gives.mki ⟨_, rfl, rfl⟩
set_option maxHeartbeats 4000000 in
theorem told_ok (w0 : World) (F : List Atom) (b g n c : Nat) (W : List Int) (hW : W.length = n) (hc : n ≤ c) (hn : n ≤ 1073741824) (hU : W32s W) (kd a wd dp : Int) (a0 : -9223372036854775808 ≤ a) (a1 : a ≤ 9223372036854775807) (ap : Option Addr) (np cp : Nat) (am : Option Addr) (nm cm : Nat) (wa : Option Addr) (wc : Nat) (T : List Int) (hI : IR w0 F .u32 wa T.length T) (hTn : T.length ≤ 35184372087808) (th : Bool) (e : Int) (hN : LookB W n a wd dp T th e) :
    CallK Try.prog 43 [.pointer (some ⟨b, 0, none⟩), .agg [Value.int .i64 kd, .int .i64 a, .int .i64 wd, .int .i64 dp, .slice ap np cp, .slice am nm cm].toArray, .slice wa T.length wc, .bool th, .int .i64 e] w0 (Blk b (.cells [Value.slice (some ⟨g, 0, none⟩) n c].toArray 76 (0, 0)) :: Own 33 1 (.slice (some ⟨g, 0, none⟩) n c) n (ints .u32 W) :: F) (Gives w0 fun v F2 => v = .bool true ∧ F2 = Blk b (.cells [Value.slice (some ⟨g, 0, none⟩) n c].toArray 76 (0, 0)) :: Own 33 1 (.slice (some ⟨g, 0, none⟩) n c) n (ints .u32 W) :: F) := by
  refine c_enter Try.func43 rfl rfl rfl ?_
  refine g_seq ?_
  refine g_region ?_
  refine l_boxs rfl rfl ?_; intro b6
  refine l_assign rfl rfl ?_
  refine l_nil ?_
  refine g_seq ?_
  refine g_region ?_
  refine l_move rfl rfl ?_
  refine l_fieldAddr rfl fa_54_1 rfl ?_
  first | refine l_ld rfl Try.isAgg3 rfl rfl ?_ | refine l_ldw rfl Try.isAgg3 rfl (by omega) ?_
  refine l_fieldAddr rfl fa_54_2 rfl ?_
  first | refine l_ld rfl Try.isAgg3 rfl rfl ?_ | refine l_ldw rfl Try.isAgg3 rfl (by omega) ?_
  refine l_fieldAddr rfl fa_54_3 rfl ?_
  first | refine l_ld rfl Try.isAgg3 rfl rfl ?_ | refine l_ldw rfl Try.isAgg3 rfl (by omega) ?_
  refine l_fronto g ?_
  refine l_frontb b ?_
  refine l_call rfl Try.call10 rfl (lookB _ _ wd dp b g n c W hW hc hn hU a a0 a1) ?_; rintro _ _ ⟨la1, q1, c1, T1, th1, e1, rfl, rfl, hT1, hl1, hN1⟩
  obtain ⟨rfl, rfl, rfl⟩ := hN.one hN1
  obtain rfl : q1 = T.length := hT1.symm
  refine l_move rfl rfl ?_
  refine l_extract rfl rfl rfl ?_
  refine l_extract rfl rfl rfl ?_
  refine l_extract rfl rfl rfl ?_
  refine l_assign rfl rfl ?_
  refine l_assign rfl rfl ?_
  refine l_assign rfl rfl ?_
  refine l_nil ?_
  refine g_seq ?_
  refine g_region ?_
  refine l_move rfl rfl ?_
  refine l_fieldAddr rfl fa_54_1 rfl ?_
  first | refine l_ld rfl Try.isAgg3 rfl rfl ?_ | refine l_ldw rfl Try.isAgg3 rfl (by omega) ?_
  refine l_fieldAddr rfl fa_54_2 rfl ?_
  first | refine l_ld rfl Try.isAgg3 rfl rfl ?_ | refine l_ldw rfl Try.isAgg3 rfl (by omega) ?_
  refine l_fieldAddr rfl fa_54_3 rfl ?_
  first | refine l_ld rfl Try.isAgg3 rfl rfl ?_ | refine l_ldw rfl Try.isAgg3 rfl (by omega) ?_
  refine l_fronto g ?_
  refine l_frontb b ?_
  refine l_call rfl Try.call10 rfl (lookB _ _ wd dp b g n c W hW hc hn hU a a0 a1) ?_; rintro _ _ ⟨la2, q2, c2, T2, th2, e2, rfl, rfl, hT2, hl2, hN2⟩
  obtain ⟨rfl, rfl, rfl⟩ := hN.one hN2
  obtain rfl : q2 = T.length := hT2.symm
  refine l_move rfl rfl ?_
  refine l_extract rfl rfl rfl ?_
  refine l_extract rfl rfl rfl ?_
  refine l_extract rfl rfl rfl ?_
  refine l_assign rfl rfl ?_
  refine l_assign rfl rfl ?_
  refine l_assign rfl rfl ?_
  refine l_nil ?_
  refine g_seq ?_
  refine g_seq ?_
  refine g_region ?_
  refine l_move rfl rfl ?_
  refine l_move rfl rfl ?_
  refine l_neqb rfl Try.underlying4 rfl rfl ?_
  refine l_move rfl rfl ?_
  refine l_split 47 rfl ?_ ?_
  · intro hbr
    first | (exfalso; simp at hbr; done) | (exfalso; simp at hbr; omega) | (exfalso; first | omega | (simp at hbr; done))
  intro hbr
  have hb47 := hbr
  refine l_guard_yes rfl rfl ?_
  refine l_move rfl rfl ?_
  refine l_guard_yes rfl rfl ?_
  refine l_move rfl rfl ?_
  refine l_guard_yes rfl rfl ?_
  refine l_neq rfl rfl rfl ?_
  refine l_pick_f rfl rfl rfl ?_
  refine l_move rfl rfl ?_
  refine l_split 52 rfl ?_ ?_
  · intro hbr
    have hbr := of_decide_eq_true hbr
    (exfalso; first | omega | (simp at hbr; done))
  intro hbr
  have hbr := of_decide_eq_false hbr
  refine l_guard_yes rfl rfl ?_
  refine l_move rfl rfl ?_
  refine l_guard_yes rfl rfl ?_
  refine l_move rfl rfl ?_
  refine l_guard_yes rfl rfl ?_
  refine l_call rfl Try.call15 rfl (same_words _ _ la1 wa _ c1 wc T (IR.own rfl (by first | exact mem_getO 0 rfl | exact mem_getO 1 rfl | exact mem_getO 2 rfl | exact mem_getO 3 rfl | exact mem_getO 4 rfl | exact mem_getO 5 rfl | exact mem_getO 6 rfl | exact mem_getO 7 rfl | exact mem_getO 8 rfl | exact mem_getO 9 rfl | exact mem_getO 10 rfl | exact mem_getO 11 rfl | exact mem_getO 12 rfl | exact mem_getO 13 rfl | exact mem_getO 14 rfl | exact mem_getO 15 rfl) hl1) hI.ex (hN.u hU) (by omega)) ?_; rintro _ _ ⟨rfl, rfl⟩
  refine l_guard_yes rfl rfl ?_
  refine l_not rfl rfl ?_
  refine l_pick_f rfl rfl rfl ?_
  refine l_move rfl rfl ?_
  refine l_guard_yes rfl rfl ?_
  refine l_move rfl rfl ?_
  refine l_guard_yes rfl rfl ?_
  refine l_move rfl rfl ?_
  refine l_guard_yes rfl rfl ?_
  refine l_neqb rfl Try.underlying4 rfl rfl ?_
  refine l_pick_f rfl rfl rfl ?_
  refine l_move rfl rfl ?_
  refine l_split 63 rfl ?_ ?_
  · intro hbr
    first | (exfalso; simp at hbr; done) | (exfalso; simp at hbr; omega) | (exfalso; first | omega | (simp at hbr; done))
  intro hbr
  have hb63 := hbr
  refine l_guard_yes rfl rfl ?_
  refine l_move rfl rfl ?_
  refine l_guard_yes rfl rfl ?_
  refine l_move rfl rfl ?_
  refine l_guard_yes rfl rfl ?_
  refine l_neq rfl rfl rfl ?_
  refine l_pick_f rfl rfl rfl ?_
  refine l_move rfl rfl ?_
  refine l_split 68 rfl ?_ ?_
  · intro hbr
    have hbr := of_decide_eq_true hbr
    (exfalso; first | omega | (simp at hbr; done))
  intro hbr
  have hbr := of_decide_eq_false hbr
  refine l_guard_yes rfl rfl ?_
  refine l_move rfl rfl ?_
  refine l_guard_yes rfl rfl ?_
  refine l_move rfl rfl ?_
  refine l_guard_yes rfl rfl ?_
  refine l_call rfl Try.call15 rfl (same_words _ _ la2 wa _ c2 wc T (IR.own rfl (by first | exact mem_getO 0 rfl | exact mem_getO 1 rfl | exact mem_getO 2 rfl | exact mem_getO 3 rfl | exact mem_getO 4 rfl | exact mem_getO 5 rfl | exact mem_getO 6 rfl | exact mem_getO 7 rfl | exact mem_getO 8 rfl | exact mem_getO 9 rfl | exact mem_getO 10 rfl | exact mem_getO 11 rfl | exact mem_getO 12 rfl | exact mem_getO 13 rfl | exact mem_getO 14 rfl | exact mem_getO 15 rfl) hl2) hI.ex (hN.u hU) (by omega)) ?_; rintro _ _ ⟨rfl, rfl⟩
  refine l_guard_yes rfl rfl ?_
  refine l_not rfl rfl ?_
  refine l_pick_f rfl rfl rfl ?_
  refine l_nil ?_
  first | refine g_cond_f rfl ?_ | refine g_cond_f (congrArg (fun b => some (Value.bool b)) (decide_eq_false hbr)) ?_
  refine g_skip ?_
  refine g_seq ?_
  refine g_region ?_
  refine l_move rfl rfl ?_
  refine l_frontv (.slice la1 T.length c1) ?_
  refine l_call rfl Try.call37 rfl (spoil_words _ _ la1 T.length c1 T hl1 rfl (by omega) _ (by decide) (by decide)) ?_; rintro _ _ rfl
  refine l_nil ?_
  refine g_seq ?_
  refine g_seq ?_
  refine g_region ?_
  refine l_move rfl rfl ?_
  refine l_move rfl rfl ?_
  refine l_call rfl Try.call15 rfl (same_words _ _ la2 wa _ c2 wc T (IR.own rfl (by first | exact mem_getO 0 rfl | exact mem_getO 1 rfl | exact mem_getO 2 rfl | exact mem_getO 3 rfl | exact mem_getO 4 rfl | exact mem_getO 5 rfl | exact mem_getO 6 rfl | exact mem_getO 7 rfl | exact mem_getO 8 rfl | exact mem_getO 9 rfl | exact mem_getO 10 rfl | exact mem_getO 11 rfl | exact mem_getO 12 rfl | exact mem_getO 13 rfl | exact mem_getO 14 rfl | exact mem_getO 15 rfl) hl2) hI.ex (hN.u hU) (by omega)) ?_; rintro _ _ ⟨rfl, rfl⟩
  refine l_not rfl rfl ?_
  refine l_nil ?_
  first | refine g_cond_f rfl ?_ | refine g_cond_f (congrArg (fun b => some (Value.bool b)) (decide_eq_false hbr)) ?_
  refine g_skip ?_
  refine g_seq ?_
  refine g_region ?_
  refine l_move rfl rfl ?_
  refine l_fieldAddr rfl fa_54_1 rfl ?_
  first | refine l_ld rfl Try.isAgg3 rfl rfl ?_ | refine l_ldw rfl Try.isAgg3 rfl (by omega) ?_
  refine l_fieldAddr rfl fa_54_2 rfl ?_
  first | refine l_ld rfl Try.isAgg3 rfl rfl ?_ | refine l_ldw rfl Try.isAgg3 rfl (by omega) ?_
  refine l_fieldAddr rfl fa_54_3 rfl ?_
  first | refine l_ld rfl Try.isAgg3 rfl rfl ?_ | refine l_ldw rfl Try.isAgg3 rfl (by omega) ?_
  refine l_fronto g ?_
  refine l_frontb b ?_
  refine l_call rfl Try.call10 rfl (lookB _ _ wd dp b g n c W hW hc hn hU a a0 a1) ?_; rintro _ _ ⟨la3, q3, c3, T3, th3, e3, rfl, rfl, hT3, hl3, hN3⟩
  obtain ⟨rfl, rfl, rfl⟩ := hN.one hN3
  obtain rfl : q3 = T.length := hT3.symm
  refine l_move rfl rfl ?_
  refine l_extract rfl rfl rfl ?_
  refine l_extract rfl rfl rfl ?_
  refine l_extract rfl rfl rfl ?_
  refine l_assign rfl rfl ?_
  refine l_assign rfl rfl ?_
  refine l_assign rfl rfl ?_
  refine l_nil ?_
  refine g_seq ?_
  refine g_region ?_
  refine l_move rfl rfl ?_
  refine l_move rfl rfl ?_
  refine l_call rfl Try.call15 rfl (same_words _ _ la3 wa _ c3 wc T (IR.own rfl (by first | exact mem_getO 0 rfl | exact mem_getO 1 rfl | exact mem_getO 2 rfl | exact mem_getO 3 rfl | exact mem_getO 4 rfl | exact mem_getO 5 rfl | exact mem_getO 6 rfl | exact mem_getO 7 rfl | exact mem_getO 8 rfl | exact mem_getO 9 rfl | exact mem_getO 10 rfl | exact mem_getO 11 rfl | exact mem_getO 12 rfl | exact mem_getO 13 rfl | exact mem_getO 14 rfl | exact mem_getO 15 rfl) hl3) hI.ex (hN.u hU) (by omega)) ?_; rintro _ _ ⟨rfl, rfl⟩
  refine l_move rfl rfl ?_
  refine l_guard_yes rfl rfl ?_
  refine l_move rfl rfl ?_
  refine l_guard_yes rfl rfl ?_
  refine l_move rfl rfl ?_
  refine l_guard_yes rfl rfl ?_
  refine l_call rfl Try.call15 rfl (same_words _ _ la2 wa _ c2 wc T (IR.own rfl (by first | exact mem_getO 0 rfl | exact mem_getO 1 rfl | exact mem_getO 2 rfl | exact mem_getO 3 rfl | exact mem_getO 4 rfl | exact mem_getO 5 rfl | exact mem_getO 6 rfl | exact mem_getO 7 rfl | exact mem_getO 8 rfl | exact mem_getO 9 rfl | exact mem_getO 10 rfl | exact mem_getO 11 rfl | exact mem_getO 12 rfl | exact mem_getO 13 rfl | exact mem_getO 14 rfl | exact mem_getO 15 rfl) hl2) hI.ex (hN.u hU) (by omega)) ?_; rintro _ _ ⟨rfl, rfl⟩
  refine l_pick_t rfl rfl rfl ?_
  refine l_assign rfl rfl ?_
  refine l_nil ?_
  refine g_ret Try.func43 rfl (.tmp rfl .nil) ?_
  exact Gives.mki ⟨(by first | rfl | (simp [resVal]; done)), rfl⟩
theorem LookB.short {W T : List Int} {n q : Nat} {a wd dp : Int} {th : Bool} {e : Int} (h : LookB W n a wd dp T th e) (hq : T.length = q) : T.length ≤ 35184372087808 := by
  rcases h with ⟨_, rfl, _⟩ | ⟨hq9, h⟩
  · simp
  · unfold QOk at hq9
    rcases h with ⟨_, rfl, _⟩ | ⟨_, h⟩
    · simp
    · rcases h with ⟨_, rfl, _⟩ | ⟨_, _, Ts, h3, h4, h5⟩
      · simp
      · have h9 := (RowR.bd h3.row (by omega)).2.2.2 0 h4
        rw [h5]; omega
set_option maxHeartbeats 8000000 in
theorem step_ok (w0 : World) (F : List Atom) (b g n c : Nat) (W : List Int) (hW : W.length = n) (hc : n ≤ c) (hn : n ≤ 1073741824) (hU : W32s W) (gd cd : Nat) (hcd : n ≤ cd) (kd a wd dp : Int) (a0 : -9223372036854775808 ≤ a) (a1 : a ≤ 9223372036854775807) (ap : Option Addr) (np cp : Nat) (P : List Int) (hP : IR w0 F .i64 ap np P) (hPb : ∀ i, -9223372036854775808 ≤ P.getD i 0 ∧ P.getD i 0 ≤ 9223372036854775807) (hnp : np ≤ 17592186043904) (am : Option Addr) (nm cm : Nat) (M : List Int) (hM : IR w0 F .u32 am nm M) (hMU : W32s M) (hnm : nm ≤ 35184372087808) :
    CallK Try.prog 20 [.pointer (some ⟨b, 0, none⟩), .slice (some ⟨gd, 0, none⟩) n cd, .agg [Value.int .i64 kd, .int .i64 a, .int .i64 wd, .int .i64 dp, .slice ap np cp, .slice am nm cm].toArray] w0 (Blk b (.cells [Value.slice (some ⟨g, 0, none⟩) n c].toArray 76 (0, 0)) :: Own 33 1 (.slice (some ⟨g, 0, none⟩) n c) n (ints .u32 W) :: Own 33 1 (.slice (some ⟨gd, 0, none⟩) n cd) n (ints .u32 W) :: F) (Gives w0 fun v F2 => ∃ g2 c2 W2, v = .tuple #[.slice (some ⟨g2, 0, none⟩) n c2, .bool true] ∧ n ≤ c2 ∧ W2.length = n ∧ W32s W2 ∧ F2 = Blk b (.cells [Value.slice (some ⟨g, 0, none⟩) n c].toArray 76 (0, 0)) :: Own 33 1 (.slice (some ⟨g, 0, none⟩) n c) n (ints .u32 W2) :: Own 33 1 (.slice (some ⟨g2, 0, none⟩) n c2) n (ints .u32 W2) :: F) := by
  refine c_enter Try.func20 rfl rfl rfl ?_
  refine g_seq ?_
  refine g_region ?_
  refine l_boxs rfl rfl ?_; intro b5
  refine l_assign rfl rfl ?_
  refine l_assign rfl rfl ?_
  refine l_nil ?_
  refine g_seq ?_
  refine g_seq ?_
  refine g_region ?_
  refine l_fieldAddr rfl fa_54_0 rfl ?_
  first | refine l_ld rfl Try.isAgg3 rfl rfl ?_ | refine l_ldw rfl Try.isAgg3 rfl (by omega) ?_
  refine l_nil ?_
  refine g_block ?_
  refine g_seq ?_
  refine g_region ?_
  refine l_eql rfl rfl rfl ?_
  refine l_assign rfl rfl ?_
  refine l_nil ?_
  refine g_cond rfl ?_ ?_
  · intro hbr
    have hbr := of_decide_eq_true hbr
    refine g_seq ?_
    refine g_region ?_
    refine l_fieldAddr rfl fa_54_5 rfl ?_
    refine l_ld rfl Try.isAgg29 rfl rfl ?_
    refine l_call rfl Try.call34 rfl (words_full _ _ am nm cm M hM.ex hnm hMU) ?_; rintro _ _ ⟨gk, X, rfl, hX, rfl⟩
    refine l_assign rfl rfl ?_
    refine l_nil ?_
    refine g_seq ?_
    refine g_region ?_
    refine l_move rfl rfl ?_
    refine l_fieldAddr rfl fa_54_1 rfl ?_
    first | refine l_ld rfl Try.isAgg3 rfl rfl ?_ | refine l_ldw rfl Try.isAgg3 rfl (by omega) ?_
    refine l_fieldAddr rfl fa_54_2 rfl ?_
    first | refine l_ld rfl Try.isAgg3 rfl rfl ?_ | refine l_ldw rfl Try.isAgg3 rfl (by omega) ?_
    refine l_fieldAddr rfl fa_54_3 rfl ?_
    first | refine l_ld rfl Try.isAgg3 rfl rfl ?_ | refine l_ldw rfl Try.isAgg3 rfl (by omega) ?_
    refine l_move rfl rfl ?_
    refine l_take (Own 33 1 (.slice (some ⟨g, 0, none⟩) n c) n (ints .u32 W)) ?_
    refine l_take (Blk b (.cells [Value.slice (some ⟨g, 0, none⟩) n c].toArray 76 (0, 0))) ?_
    refine l_call rfl Try.call7 rfl (putB _ _ wd dp b g n c W hW hc hn hU a a0 a1 (some ⟨gk, 0, none⟩) nm (nm + 70) M (ir_pre hM.1 (by first | exact mem_getO 0 rfl | exact mem_getO 1 rfl | exact mem_getO 2 rfl | exact mem_getO 3 rfl | exact mem_getO 4 rfl | exact mem_getO 5 rfl | exact mem_getO 6 rfl | exact mem_getO 7 rfl | exact mem_getO 8 rfl | exact mem_getO 9 rfl | exact mem_getO 10 rfl | exact mem_getO 11 rfl | exact mem_getO 12 rfl | exact mem_getO 13 rfl | exact mem_getO 14 rfl | exact mem_getO 15 rfl) (hX.pre hM.1)) hMU (by omega)) ?_; rintro _ _ ⟨ok1, e1, W1, rfl, rfl, hN1⟩
    refine l_move rfl rfl ?_
    refine l_extract rfl rfl rfl ?_
    refine l_extract rfl rfl rfl ?_
    refine l_assign rfl rfl ?_
    refine l_assign rfl rfl ?_
    refine l_nil ?_
    refine g_seq ?_
    refine gp_start mo (by kernel_rfl) (by kernel_rfl) ?_
    refine gp_quiet 0 rfl rfl rfl rfl rfl rfl (q_move rfl) ?_
    refine gp_quiet 1 rfl rfl rfl rfl rfl rfl (q_fieldAddr fa_54_1 rfl) ?_
    first | refine gp_quiet 2 rfl rfl rfl rfl rfl rfl (q_ld Try.isAgg3 rfl rfl) ?_ | refine gp_quiet 2 rfl rfl rfl rfl rfl rfl (q_ldw Try.isAgg3 rfl (by omega)) ?_
    refine gp_quiet 3 rfl rfl rfl rfl rfl rfl (q_fieldAddr fa_54_2 rfl) ?_
    first | refine gp_quiet 4 rfl rfl rfl rfl rfl rfl (q_ld Try.isAgg3 rfl rfl) ?_ | refine gp_quiet 4 rfl rfl rfl rfl rfl rfl (q_ldw Try.isAgg3 rfl (by omega)) ?_
    refine gp_quiet 5 rfl rfl rfl rfl rfl rfl (q_fieldAddr fa_54_3 rfl) ?_
    first | refine gp_quiet 6 rfl rfl rfl rfl rfl rfl (q_ld Try.isAgg3 rfl rfl) ?_ | refine gp_quiet 6 rfl rfl rfl rfl rfl rfl (q_ldw Try.isAgg3 rfl (by omega)) ?_
    refine gp_quiet 7 rfl rfl rfl rfl rfl rfl (q_fieldAddr fa_54_5 rfl) ?_
    refine gp_quiet 8 rfl rfl rfl rfl rfl rfl (q_ld Try.isAgg29 rfl rfl) ?_
    refine gp_effa 9 [8] [7, 6, 5, 4, 3, 2, 1, 0] rfl rfl rfl rfl rfl rfl rfl (does_call Try.call14 rfl (copy_words _ _ am nm cm M hM.ex hnm hMU)) ?_
    rintro _ _ ⟨gc, rfl, rfl⟩
    refine ⟨?_, ?_⟩
    · refine .cons rfl rfl rfl rfl rfl (q_fieldAddr fa_54_5 rfl) ?_
      first | refine .cons rfl rfl rfl rfl rfl (q_ld Try.isAgg3 rfl rfl) ?_ | refine .cons rfl rfl rfl rfl rfl (q_ldw Try.isAgg3 rfl (by omega)) ?_
      refine .cons rfl rfl rfl rfl rfl (q_fieldAddr fa_54_3 rfl) ?_
      first | refine .cons rfl rfl rfl rfl rfl (q_ld Try.isAgg3 rfl rfl) ?_ | refine .cons rfl rfl rfl rfl rfl (q_ldw Try.isAgg3 rfl (by omega)) ?_
      refine .cons rfl rfl rfl rfl rfl (q_fieldAddr fa_54_2 rfl) ?_
      first | refine .cons rfl rfl rfl rfl rfl (q_ld Try.isAgg3 rfl rfl) ?_ | refine .cons rfl rfl rfl rfl rfl (q_ldw Try.isAgg3 rfl (by omega)) ?_
      refine .cons rfl rfl rfl rfl rfl (q_fieldAddr fa_54_1 rfl) ?_
      refine .cons rfl rfl rfl rfl rfl (q_move rfl) ?_
      exact .nil
    refine gp_take (Own 33 1 (.slice (some ⟨gd, 0, none⟩) n cd) n (ints .u32 W)) ?_
    refine gp_effa 10 [0, 2, 4, 6] [7, 5, 3, 1] rfl rfl rfl rfl rfl rfl rfl (does_call Try.call35 rfl (rputB _ _ wd dp gd n cd W hW hcd hn hU a a0 a1 (some ⟨gc, 0, none⟩) nm nm M (IR.own hM.1 (by first | exact mem_getO 0 rfl | exact mem_getO 1 rfl | exact mem_getO 2 rfl | exact mem_getO 3 rfl | exact mem_getO 4 rfl | exact mem_getO 5 rfl | exact mem_getO 6 rfl | exact mem_getO 7 rfl | exact mem_getO 8 rfl | exact mem_getO 9 rfl | exact mem_getO 10 rfl | exact mem_getO 11 rfl | exact mem_getO 12 rfl | exact mem_getO 13 rfl | exact mem_getO 14 rfl | exact mem_getO 15 rfl) (.inr ⟨_, rfl⟩)) hMU (by omega))) ?_
    rintro _ _ ⟨g2, c2, ok2, e2, W2, rfl, hc2, rfl, hN2⟩
    refine ⟨?_, ?_⟩
    · refine .cons rfl rfl rfl rfl rfl (q_fieldAddr fa_54_5 rfl) ?_
      refine .cons rfl rfl rfl rfl rfl (q_fieldAddr fa_54_3 rfl) ?_
      refine .cons rfl rfl rfl rfl rfl (q_fieldAddr fa_54_2 rfl) ?_
      refine .cons rfl rfl rfl rfl rfl (q_fieldAddr fa_54_1 rfl) ?_
      exact .nil
    refine gp_quiet 11 rfl rfl rfl rfl rfl rfl (q_move rfl) ?_
    refine gp_quiet 12 rfl rfl rfl rfl rfl rfl (q_extract rfl rfl) ?_
    refine gp_quiet 13 rfl rfl rfl rfl rfl rfl (q_extract rfl rfl) ?_
    refine gp_quiet 14 rfl rfl rfl rfl rfl rfl (q_extract rfl rfl) ?_
    refine gp_quiet 15 rfl rfl rfl rfl rfl rfl (q_assign rfl) ?_
    refine gp_quiet 16 rfl rfl rfl rfl rfl rfl (q_assign rfl) ?_
    refine gp_quiet 17 rfl rfl rfl rfl rfl rfl (q_assign rfl) ?_
    refine gp_end rfl rfl ?_
    refine g_seq ?_
    refine g_region ?_
    obtain ⟨rfl, rfl, rfl⟩ := hN1.one hN2
    have hw9 := hN1.w hW hU hMU
    refine l_move rfl rfl ?_
    refine l_move rfl rfl ?_
    refine l_eqlb rfl Try.underlying4 rfl rfl ?_
    refine l_move rfl rfl ?_
    refine l_split 74 rfl ?_ ?_
    · intro hbr
      have hb74 := hbr
      refine l_guard_yes rfl rfl ?_
      refine l_move rfl rfl ?_
      refine l_guard_yes rfl rfl ?_
      refine l_move rfl rfl ?_
      refine l_guard_yes rfl rfl ?_
      refine l_eql rfl rfl rfl ?_
      refine l_pick_t rfl rfl rfl ?_
      refine l_move rfl rfl ?_
      refine l_split 79 rfl ?_ ?_
      · intro hbr
        have hbr := of_decide_eq_true hbr
        refine l_guard_yes rfl rfl ?_
        refine l_move rfl rfl ?_
        refine l_guard_yes rfl rfl ?_
        refine l_fieldAddr rfl fa_54_5 rfl ?_
        refine l_guard_yes rfl rfl ?_
        refine l_ld rfl Try.isAgg29 rfl rfl ?_
        refine l_guard_yes rfl rfl ?_
        refine l_take (Own 33 1 (.slice (some ⟨gk, 0, none⟩) (nm + 70) (nm + 70)) (nm + 70) (ints .u32 X)) ?_
        refine l_call rfl Try.call36 rfl (words_kept _ _ gk X am nm cm M hM.ex hnm hMU hX) ?_; rintro _ _ ⟨rfl, rfl⟩
        refine l_pick_t rfl rfl rfl ?_
        refine l_assign rfl rfl ?_
        refine l_nil ?_
        refine g_seq ?_
        refine g_region ?_
        refine l_move rfl rfl ?_
        refine l_take (Own 33 1 (.slice (some ⟨gk, 0, none⟩) (nm + 70) (nm + 70)) (nm + 70) (ints .u32 X)) ?_
        refine gl_heap (fun w hw => hw.as (own_shrink (k := nm) (by omega)) (fun b hb => hb)) ?_
        rw [ints_take]
        refine l_call rfl Try.call37 rfl (spoil_words _ _ (some ⟨gk, 0, none⟩) nm (nm + 70) (X.take nm) (.inr ⟨_, rfl⟩) (by rw [List.length_take, hX.1]; omega) (by omega) _ (by decide) (by decide)) ?_; rintro _ _ rfl
        refine l_nil ?_
        refine g_seq ?_
        refine g_region ?_
        refine l_move rfl rfl ?_
        refine l_move rfl rfl ?_
        refine l_assign rfl rfl ?_
        refine l_assign rfl rfl ?_
        refine l_nil ?_
        refine g_ret Try.func20 rfl (.tmp rfl (.tmp rfl .nil)) ?_
        exact Gives.mki ⟨g2, c2, W1, by first | rfl | (simp [resVal]; done), hc2, hw9.1, hw9.2, rfl⟩
      · intro hbr
        have hbr := of_decide_eq_false hbr
        (exfalso; first | omega | (simp at hbr; done))
    · intro hbr
      first | (exfalso; simp at hbr; done) | (exfalso; simp at hbr; omega) | (exfalso; first | omega | (simp at hbr; done))
  intro hbr
  have hbr := of_decide_eq_false hbr
  refine g_seq ?_
  refine g_region ?_
  refine l_eql rfl rfl rfl ?_
  refine l_assign rfl rfl ?_
  refine l_nil ?_
  refine g_cond rfl ?_ ?_
  · intro hbr
    have hbr := of_decide_eq_true hbr
    refine g_seq ?_
    refine g_region ?_
    refine l_move rfl rfl ?_
    refine l_fieldAddr rfl fa_54_1 rfl ?_
    first | refine l_ld rfl Try.isAgg3 rfl rfl ?_ | refine l_ldw rfl Try.isAgg3 rfl (by omega) ?_
    refine l_fieldAddr rfl fa_54_2 rfl ?_
    first | refine l_ld rfl Try.isAgg3 rfl rfl ?_ | refine l_ldw rfl Try.isAgg3 rfl (by omega) ?_
    refine l_fieldAddr rfl fa_54_3 rfl ?_
    first | refine l_ld rfl Try.isAgg3 rfl rfl ?_ | refine l_ldw rfl Try.isAgg3 rfl (by omega) ?_
    refine l_take (Own 33 1 (.slice (some ⟨g, 0, none⟩) n c) n (ints .u32 W)) ?_
    refine l_take (Blk b (.cells [Value.slice (some ⟨g, 0, none⟩) n c].toArray 76 (0, 0))) ?_
    refine l_call rfl Try.call8 rfl (stgdB _ _ wd dp b g n c W hW hc hn hU a a0 a1) ?_; rintro _ _ ⟨k1, e1, rfl, rfl, hN1⟩
    refine l_move rfl rfl ?_
    refine l_extract rfl rfl rfl ?_
    refine l_extract rfl rfl rfl ?_
    refine l_assign rfl rfl ?_
    refine l_assign rfl rfl ?_
    refine l_nil ?_
    refine g_seq ?_
    refine g_region ?_
    refine l_move rfl rfl ?_
    refine l_fieldAddr rfl fa_54_1 rfl ?_
    first | refine l_ld rfl Try.isAgg3 rfl rfl ?_ | refine l_ldw rfl Try.isAgg3 rfl (by omega) ?_
    refine l_fieldAddr rfl fa_54_2 rfl ?_
    first | refine l_ld rfl Try.isAgg3 rfl rfl ?_ | refine l_ldw rfl Try.isAgg3 rfl (by omega) ?_
    refine l_fieldAddr rfl fa_54_3 rfl ?_
    first | refine l_ld rfl Try.isAgg3 rfl rfl ?_ | refine l_ldw rfl Try.isAgg3 rfl (by omega) ?_
    refine l_take (Own 33 1 (.slice (some ⟨gd, 0, none⟩) n cd) n (ints .u32 W)) ?_
    refine l_call rfl Try.call38 rfl (rstgdB _ _ wd dp gd n cd W hW hcd hn hU a a0 a1) ?_; rintro _ _ ⟨k2, e2, rfl, rfl, hN2⟩
    refine l_move rfl rfl ?_
    refine l_extract rfl rfl rfl ?_
    refine l_extract rfl rfl rfl ?_
    refine l_assign rfl rfl ?_
    refine l_assign rfl rfl ?_
    refine l_nil ?_
    refine g_seq ?_
    refine g_region ?_
    obtain ⟨rfl, rfl⟩ := hN1.one hN2
    refine l_move rfl rfl ?_
    refine l_move rfl rfl ?_
    refine l_move rfl rfl ?_
    refine l_eql rfl rfl rfl ?_
    refine l_move rfl rfl ?_
    refine l_split 117 rfl ?_ ?_
    · intro hbr
      have hbr := of_decide_eq_true hbr
      refine l_guard_yes rfl rfl ?_
      refine l_move rfl rfl ?_
      refine l_guard_yes rfl rfl ?_
      refine l_move rfl rfl ?_
      refine l_guard_yes rfl rfl ?_
      refine l_eql rfl rfl rfl ?_
      refine l_pick_t rfl rfl rfl ?_
      refine l_assign rfl rfl ?_
      refine l_assign rfl rfl ?_
      refine l_nil ?_
      refine g_ret Try.func20 rfl (.tmp rfl (.tmp rfl .nil)) ?_
      exact Gives.mki ⟨gd, cd, W, by first | rfl | (simp [resVal]; done), hcd, hW, hU, rfl⟩
    · intro hbr
      have hbr := of_decide_eq_false hbr
      (exfalso; first | omega | (simp at hbr; done))
  intro hbr
  have hbr := of_decide_eq_false hbr
  refine g_seq ?_
  refine g_region ?_
  refine l_eql rfl rfl rfl ?_
  refine l_assign rfl rfl ?_
  refine l_nil ?_
  refine g_cond rfl ?_ ?_
  · intro hbr
    have hbr := of_decide_eq_true hbr
    refine g_seq ?_
    refine g_region ?_
    refine l_fieldAddr rfl fa_54_4 rfl ?_
    refine l_ld rfl Try.isAgg52 rfl rfl ?_
    refine l_call rfl Try.call39 rfl (ints_full _ _ ap np cp P hP.ex hnp hPb) ?_; rintro _ _ ⟨gk, X, rfl, hX, rfl⟩
    refine l_assign rfl rfl ?_
    refine l_nil ?_
    refine g_seq ?_
    refine g_region ?_
    refine l_move rfl rfl ?_
    refine l_fieldAddr rfl fa_54_1 rfl ?_
    first | refine l_ld rfl Try.isAgg3 rfl rfl ?_ | refine l_ldw rfl Try.isAgg3 rfl (by omega) ?_
    refine l_fieldAddr rfl fa_54_2 rfl ?_
    first | refine l_ld rfl Try.isAgg3 rfl rfl ?_ | refine l_ldw rfl Try.isAgg3 rfl (by omega) ?_
    refine l_fieldAddr rfl fa_54_3 rfl ?_
    first | refine l_ld rfl Try.isAgg3 rfl rfl ?_ | refine l_ldw rfl Try.isAgg3 rfl (by omega) ?_
    refine l_move rfl rfl ?_
    refine l_take (Own 33 1 (.slice (some ⟨g, 0, none⟩) n c) n (ints .u32 W)) ?_
    refine l_take (Blk b (.cells [Value.slice (some ⟨g, 0, none⟩) n c].toArray 76 (0, 0))) ?_
    refine l_call rfl Try.call9 rfl (delB _ _ wd dp b g n c W hW hc hn hU a a0 a1 (some ⟨gk, 0, none⟩) np (np + 70) P (ir_pre hP.1 (by first | exact mem_getO 0 rfl | exact mem_getO 1 rfl | exact mem_getO 2 rfl | exact mem_getO 3 rfl | exact mem_getO 4 rfl | exact mem_getO 5 rfl | exact mem_getO 6 rfl | exact mem_getO 7 rfl | exact mem_getO 8 rfl | exact mem_getO 9 rfl | exact mem_getO 10 rfl | exact mem_getO 11 rfl | exact mem_getO 12 rfl | exact mem_getO 13 rfl | exact mem_getO 14 rfl | exact mem_getO 15 rfl) (hX.pre hP.1)) hPb (by omega)) ?_; rintro _ _ ⟨e1, W1, rfl, rfl, hN1⟩
    refine l_assign rfl rfl ?_
    refine l_nil ?_
    refine g_seq ?_
    refine g_region ?_
    refine l_move rfl rfl ?_
    refine l_fieldAddr rfl fa_54_1 rfl ?_
    first | refine l_ld rfl Try.isAgg3 rfl rfl ?_ | refine l_ldw rfl Try.isAgg3 rfl (by omega) ?_
    refine l_fieldAddr rfl fa_54_2 rfl ?_
    first | refine l_ld rfl Try.isAgg3 rfl rfl ?_ | refine l_ldw rfl Try.isAgg3 rfl (by omega) ?_
    refine l_fieldAddr rfl fa_54_3 rfl ?_
    first | refine l_ld rfl Try.isAgg3 rfl rfl ?_ | refine l_ldw rfl Try.isAgg3 rfl (by omega) ?_
    refine l_fieldAddr rfl fa_54_4 rfl ?_
    refine l_ld rfl Try.isAgg52 rfl rfl ?_
    refine l_take (Own 33 1 (.slice (some ⟨gd, 0, none⟩) n cd) n (ints .u32 W)) ?_
    refine l_call rfl Try.call40 rfl (rdelB _ _ wd dp gd n cd W hW hcd hn hU a a0 a1 ap np cp P hP.ex hPb (by omega)) ?_; rintro _ _ ⟨g2, c2, e2, W2, rfl, hc2, rfl, hN2⟩
    refine l_move rfl rfl ?_
    refine l_extract rfl rfl rfl ?_
    refine l_extract rfl rfl rfl ?_
    refine l_assign rfl rfl ?_
    refine l_assign rfl rfl ?_
    refine l_nil ?_
    refine g_seq ?_
    refine g_region ?_
    obtain ⟨rfl, rfl⟩ := hN1.one hN2
    have hw9 := hN1.w hW hU
    refine l_move rfl rfl ?_
    refine l_move rfl rfl ?_
    refine l_move rfl rfl ?_
    refine l_eql rfl rfl rfl ?_
    refine l_move rfl rfl ?_
    refine l_split 153 rfl ?_ ?_
    · intro hbr
      have hbr := of_decide_eq_true hbr
      refine l_guard_yes rfl rfl ?_
      refine l_move rfl rfl ?_
      refine l_guard_yes rfl rfl ?_
      refine l_fieldAddr rfl fa_54_4 rfl ?_
      refine l_guard_yes rfl rfl ?_
      refine l_ld rfl Try.isAgg52 rfl rfl ?_
      refine l_guard_yes rfl rfl ?_
      refine l_take (Own 3 1 (.slice (some ⟨gk, 0, none⟩) (np + 70) (np + 70)) (np + 70) (ints .i64 X)) ?_
      refine l_call rfl Try.call41 rfl (ints_kept _ _ gk X ap np cp P hP.ex hnp hPb hX) ?_; rintro _ _ ⟨rfl, rfl⟩
      refine l_pick_t rfl rfl rfl ?_
      refine l_assign rfl rfl ?_
      refine l_assign rfl rfl ?_
      refine l_nil ?_
      refine g_ret Try.func20 rfl (.tmp rfl (.tmp rfl .nil)) ?_
      exact Gives.mki ⟨g2, c2, W1, by first | rfl | (simp [resVal]; done), hc2, hw9.1, hw9.2, rfl⟩
    · intro hbr
      have hbr := of_decide_eq_false hbr
      (exfalso; first | omega | (simp at hbr; done))
  intro hbr
  have hbr := of_decide_eq_false hbr
  refine g_seq ?_
  refine g_region ?_
  refine l_eql rfl rfl rfl ?_
  refine l_assign rfl rfl ?_
  refine l_nil ?_
  refine g_cond rfl ?_ ?_
  · intro hbr
    have hbr := of_decide_eq_true hbr
    refine g_seq ?_
    refine g_region ?_
    refine l_move rfl rfl ?_
    refine l_fieldAddr rfl fa_54_1 rfl ?_
    first | refine l_ld rfl Try.isAgg3 rfl rfl ?_ | refine l_ldw rfl Try.isAgg3 rfl (by omega) ?_
    refine l_fieldAddr rfl fa_54_2 rfl ?_
    first | refine l_ld rfl Try.isAgg3 rfl rfl ?_ | refine l_ldw rfl Try.isAgg3 rfl (by omega) ?_
    refine l_fieldAddr rfl fa_54_3 rfl ?_
    first | refine l_ld rfl Try.isAgg3 rfl rfl ?_ | refine l_ldw rfl Try.isAgg3 rfl (by omega) ?_
    refine l_take (Own 33 1 (.slice (some ⟨gd, 0, none⟩) n cd) n (ints .u32 W)) ?_
    refine l_call rfl Try.call42 rfl (rlookB _ _ wd dp gd n cd W hW hcd hn hU a a0 a1) ?_; rintro _ _ ⟨la, q, c2, T, th, e, rfl, rfl, hT, hla, hN⟩
    refine l_move rfl rfl ?_
    refine l_extract rfl rfl rfl ?_
    refine l_extract rfl rfl rfl ?_
    refine l_extract rfl rfl rfl ?_
    refine l_assign rfl rfl ?_
    refine l_assign rfl rfl ?_
    refine l_assign rfl rfl ?_
    refine l_nil ?_
    refine g_seq ?_
    refine g_region ?_
    have hTn := hN.short hT
    refine l_move rfl rfl ?_
    refine l_move rfl rfl ?_
    refine l_lds rfl Try.isAgg54 Try.sizeOf54 rfl rfl ?_
    refine l_move rfl rfl ?_
    refine l_move rfl rfl ?_
    refine l_move rfl rfl ?_
    obtain rfl : q = T.length := hT.symm
    refine l_take (Own 33 1 (.slice (some ⟨g, 0, none⟩) n c) n (ints .u32 W)) ?_
    refine l_take (Blk b (.cells [Value.slice (some ⟨g, 0, none⟩) n c].toArray 76 (0, 0))) ?_
    refine l_call rfl Try.call43 rfl (told_ok _ _ b g n c W hW hc hn hU kd a wd dp a0 a1 ap np cp am nm cm la c2 T (IR.own rfl (by first | exact mem_getO 0 rfl | exact mem_getO 1 rfl | exact mem_getO 2 rfl | exact mem_getO 3 rfl | exact mem_getO 4 rfl | exact mem_getO 5 rfl | exact mem_getO 6 rfl | exact mem_getO 7 rfl | exact mem_getO 8 rfl | exact mem_getO 9 rfl | exact mem_getO 10 rfl | exact mem_getO 11 rfl | exact mem_getO 12 rfl | exact mem_getO 13 rfl | exact mem_getO 14 rfl | exact mem_getO 15 rfl) hla) hTn th e hN) ?_; rintro _ _ ⟨rfl, rfl⟩
    refine l_assign rfl rfl ?_
    refine l_assign rfl rfl ?_
    refine l_nil ?_
    refine g_ret Try.func20 rfl (.tmp rfl (.tmp rfl .nil)) ?_
    exact Gives.mki ⟨gd, cd, W, by first | rfl | (simp [resVal]; done), hcd, hW, hU, rfl⟩
  intro hbr
  have hbr := of_decide_eq_false hbr
  refine g_seq ?_
  refine g_region ?_
  refine l_eql rfl rfl rfl ?_
  refine l_assign rfl rfl ?_
  refine l_nil ?_
  refine g_cond rfl ?_ ?_
  · intro hbr
    have hbr := of_decide_eq_true hbr
    refine g_seq ?_
    refine g_region ?_
    refine l_move rfl rfl ?_
    refine l_fieldAddr rfl fa_54_1 rfl ?_
    first | refine l_ld rfl Try.isAgg3 rfl rfl ?_ | refine l_ldw rfl Try.isAgg3 rfl (by omega) ?_
    refine l_fieldAddr rfl fa_54_2 rfl ?_
    first | refine l_ld rfl Try.isAgg3 rfl rfl ?_ | refine l_ldw rfl Try.isAgg3 rfl (by omega) ?_
    refine l_fieldAddr rfl fa_54_3 rfl ?_
    first | refine l_ld rfl Try.isAgg3 rfl rfl ?_ | refine l_ldw rfl Try.isAgg3 rfl (by omega) ?_
    refine l_take (Own 33 1 (.slice (some ⟨g, 0, none⟩) n c) n (ints .u32 W)) ?_
    refine l_take (Blk b (.cells [Value.slice (some ⟨g, 0, none⟩) n c].toArray 76 (0, 0))) ?_
    refine l_call rfl Try.call11 rfl (takB _ _ wd dp b g n c W hW hc hn hU a a0 a1) ?_; rintro _ _ ⟨ok1, e1, W1, rfl, rfl, hN1⟩
    refine l_move rfl rfl ?_
    refine l_extract rfl rfl rfl ?_
    refine l_extract rfl rfl rfl ?_
    refine l_assign rfl rfl ?_
    refine l_assign rfl rfl ?_
    refine l_nil ?_
    refine g_seq ?_
    refine g_region ?_
    refine l_move rfl rfl ?_
    refine l_fieldAddr rfl fa_54_1 rfl ?_
    first | refine l_ld rfl Try.isAgg3 rfl rfl ?_ | refine l_ldw rfl Try.isAgg3 rfl (by omega) ?_
    refine l_fieldAddr rfl fa_54_2 rfl ?_
    first | refine l_ld rfl Try.isAgg3 rfl rfl ?_ | refine l_ldw rfl Try.isAgg3 rfl (by omega) ?_
    refine l_fieldAddr rfl fa_54_3 rfl ?_
    first | refine l_ld rfl Try.isAgg3 rfl rfl ?_ | refine l_ldw rfl Try.isAgg3 rfl (by omega) ?_
    refine l_take (Own 33 1 (.slice (some ⟨gd, 0, none⟩) n cd) n (ints .u32 W)) ?_
    refine l_call rfl Try.call44 rfl (rtakB _ _ wd dp gd n cd W hW hcd hn hU a a0 a1) ?_; rintro _ _ ⟨g2, c2, ok2, e2, W2, rfl, hc2, rfl, hN2⟩
    refine l_move rfl rfl ?_
    refine l_extract rfl rfl rfl ?_
    refine l_extract rfl rfl rfl ?_
    refine l_extract rfl rfl rfl ?_
    refine l_assign rfl rfl ?_
    refine l_assign rfl rfl ?_
    refine l_assign rfl rfl ?_
    refine l_nil ?_
    refine g_seq ?_
    refine g_region ?_
    obtain ⟨rfl, rfl, rfl⟩ := hN1.one hN2
    have hw9 := hN1.w hW hU
    refine l_move rfl rfl ?_
    refine l_move rfl rfl ?_
    refine l_move rfl rfl ?_
    refine l_eqlb rfl Try.underlying4 rfl rfl ?_
    refine l_move rfl rfl ?_
    refine l_split 209 rfl ?_ ?_
    · intro hbr
      have hb209 := hbr
      refine l_guard_yes rfl rfl ?_
      refine l_move rfl rfl ?_
      refine l_guard_yes rfl rfl ?_
      refine l_move rfl rfl ?_
      refine l_guard_yes rfl rfl ?_
      refine l_eql rfl rfl rfl ?_
      refine l_pick_t rfl rfl rfl ?_
      refine l_assign rfl rfl ?_
      refine l_assign rfl rfl ?_
      refine l_nil ?_
      refine g_ret Try.func20 rfl (.tmp rfl (.tmp rfl .nil)) ?_
      exact Gives.mki ⟨g2, c2, W1, by first | rfl | (simp [resVal]; done), hc2, hw9.1, hw9.2, rfl⟩
    · intro hbr
      first | (exfalso; simp at hbr; done) | (exfalso; simp at hbr; omega) | (exfalso; first | omega | (simp at hbr; done))
  intro hbr
  have hbr := of_decide_eq_false hbr
  refine g_seq ?_
  refine g_region ?_
  refine l_eql rfl rfl rfl ?_
  refine l_assign rfl rfl ?_
  refine l_nil ?_
  refine g_cond rfl ?_ ?_
  · intro hbr
    have hbr := of_decide_eq_true hbr
    refine g_seq ?_
    refine g_region ?_
    refine l_move rfl rfl ?_
    refine l_fieldAddr rfl fa_54_1 rfl ?_
    first | refine l_ld rfl Try.isAgg3 rfl rfl ?_ | refine l_ldw rfl Try.isAgg3 rfl (by omega) ?_
    refine l_fieldAddr rfl fa_54_2 rfl ?_
    first | refine l_ld rfl Try.isAgg3 rfl rfl ?_ | refine l_ldw rfl Try.isAgg3 rfl (by omega) ?_
    refine l_fieldAddr rfl fa_54_3 rfl ?_
    first | refine l_ld rfl Try.isAgg3 rfl rfl ?_ | refine l_ldw rfl Try.isAgg3 rfl (by omega) ?_
    refine l_take (Own 33 1 (.slice (some ⟨g, 0, none⟩) n c) n (ints .u32 W)) ?_
    refine l_take (Blk b (.cells [Value.slice (some ⟨g, 0, none⟩) n c].toArray 76 (0, 0))) ?_
    refine l_call rfl Try.call12 rfl (cntB _ _ wd dp b g n c W hW hc hn hU a a0 a1) ?_; rintro _ _ ⟨k1, ls1, e1, rfl, rfl, hN1⟩
    refine l_move rfl rfl ?_
    refine l_extract rfl rfl rfl ?_
    refine l_extract rfl rfl rfl ?_
    refine l_extract rfl rfl rfl ?_
    refine l_assign rfl rfl ?_
    refine l_assign rfl rfl ?_
    refine l_assign rfl rfl ?_
    refine l_nil ?_
    refine g_seq ?_
    refine g_region ?_
    refine l_move rfl rfl ?_
    refine l_fieldAddr rfl fa_54_1 rfl ?_
    first | refine l_ld rfl Try.isAgg3 rfl rfl ?_ | refine l_ldw rfl Try.isAgg3 rfl (by omega) ?_
    refine l_fieldAddr rfl fa_54_2 rfl ?_
    first | refine l_ld rfl Try.isAgg3 rfl rfl ?_ | refine l_ldw rfl Try.isAgg3 rfl (by omega) ?_
    refine l_fieldAddr rfl fa_54_3 rfl ?_
    first | refine l_ld rfl Try.isAgg3 rfl rfl ?_ | refine l_ldw rfl Try.isAgg3 rfl (by omega) ?_
    refine l_take (Own 33 1 (.slice (some ⟨gd, 0, none⟩) n cd) n (ints .u32 W)) ?_
    refine l_call rfl Try.call45 rfl (rcntB _ _ wd dp gd n cd W hW hcd hn hU a a0 a1) ?_; rintro _ _ ⟨k2, ls2, e2, rfl, rfl, hN2⟩
    refine l_move rfl rfl ?_
    refine l_extract rfl rfl rfl ?_
    refine l_extract rfl rfl rfl ?_
    refine l_extract rfl rfl rfl ?_
    refine l_assign rfl rfl ?_
    refine l_assign rfl rfl ?_
    refine l_assign rfl rfl ?_
    refine l_nil ?_
    refine g_seq ?_
    refine g_region ?_
    obtain ⟨rfl, rfl, rfl⟩ := hN1.one hN2
    refine l_move rfl rfl ?_
    refine l_move rfl rfl ?_
    refine l_move rfl rfl ?_
    refine l_eql rfl rfl rfl ?_
    refine l_move rfl rfl ?_
    refine l_split 244 rfl ?_ ?_
    · intro hbr
      have hbr := of_decide_eq_true hbr
      refine l_guard_yes rfl rfl ?_
      refine l_move rfl rfl ?_
      refine l_guard_yes rfl rfl ?_
      refine l_move rfl rfl ?_
      refine l_guard_yes rfl rfl ?_
      refine l_eql rfl rfl rfl ?_
      refine l_pick_t rfl rfl rfl ?_
      refine l_move rfl rfl ?_
      refine l_split 249 rfl ?_ ?_
      · intro hbr
        have hbr := of_decide_eq_true hbr
        refine l_guard_yes rfl rfl ?_
        refine l_move rfl rfl ?_
        refine l_guard_yes rfl rfl ?_
        refine l_move rfl rfl ?_
        refine l_guard_yes rfl rfl ?_
        refine l_eql rfl rfl rfl ?_
        refine l_pick_t rfl rfl rfl ?_
        refine l_assign rfl rfl ?_
        refine l_assign rfl rfl ?_
        refine l_nil ?_
        refine g_ret Try.func20 rfl (.tmp rfl (.tmp rfl .nil)) ?_
        exact Gives.mki ⟨gd, cd, W, by first | rfl | (simp [resVal]; done), hcd, hW, hU, rfl⟩
      · intro hbr
        have hbr := of_decide_eq_false hbr
        (exfalso; first | omega | (simp at hbr; done))
    · intro hbr
      have hbr := of_decide_eq_false hbr
      (exfalso; first | omega | (simp at hbr; done))
  intro hbr
  have hbr := of_decide_eq_false hbr
  refine g_skip ?_
  refine g_inBlock ?_
  refine g_seq ?_
  refine g_region ?_
  refine l_move rfl rfl ?_
  refine l_assign rfl rfl ?_
  refine l_assign rfl rfl ?_
  refine l_nil ?_
  refine g_ret Try.func20 rfl (.tmp rfl (.tmp rfl .nil)) ?_
  exact Gives.mki ⟨gd, cd, W, by first | rfl | (simp [resVal]; done), hcd, hW, hU, rfl⟩
theorem rapart_any (w0 : World) (F : List Atom) (st wd dp : Int) (hq : QOk wd dp) (la : Option Addr) (ln lc : Nat) (L : List Int) (hL : IR w0 F .i64 la ln L) (hln : ln ≤ 9223372036854775807) : CallK Try.prog 19 [.int .i64 st, .int .i64 wd, .int .i64 dp, .slice la ln lc] w0 F (Gives w0 fun v F2 => ∃ ok : Bool, v = .bool ok ∧ F2 = F) := by
  obtain ⟨w, d, rfl, rfl, h1, h2, h3, h4⟩ := qok_nat hq
  exact rapart_ok w0 F w d h1 h2 h3 h4 st la ln lc L hL hln
set_option maxHeartbeats 16000000 in
theorem plays_ok (w0 : World) (F : List Atom) (fr fm : Int) (fm0 : -9223372036854775808 ≤ fm) (fm1 : fm ≤ 9223372036854775807) (wa : Option Addr) (wn wc : Nat) (Wd : List Int) (hWd : IR w0 F .u32 wa wn Wd) (hWdU : W32s Wd) (hwn : wn ≤ 9223372036854775807) (oa : Option Addr) (on oc : Nat) (hon : on ≤ 9223372036854775807) (L : List OpV) (hLl : L.length = on) (hs : on = 0 ∨ ∃ b o, oa = some ⟨b, o, none⟩ ∧ RowAt w0 F b o (L.map opV).flatten) (hok : ∀ o ∈ L, OpOk w0 F o) (h : 1 ≤ fr ∧ fr ≤ 16 ∧ on ≤ 200) :
    CallK Try.prog 5 [.agg [Value.int .i64 (fr : Int), .int .i64 fm, .slice wa wn wc, .slice oa on oc].toArray] w0 (F) (Gives w0 fun v F2 => v = .bool true ∧ F2 = F) := by
  refine c_enter Try.func5 rfl rfl rfl ?_
  refine g_seq ?_
  refine g_region ?_
  refine l_boxs rfl rfl ?_; intro b1
  refine l_assign rfl rfl ?_
  refine l_nil ?_
  refine g_seq ?_
  refine g_seq ?_
  refine g_region ?_
  refine l_lds rfl Try.isAgg48 Try.sizeOf48 rfl rfl ?_
  refine l_call rfl Try.call16 rfl (fit_ok _ _ _ _ _ _ _ _ _ _ h) ?_; rintro _ _ ⟨rfl, rfl⟩
  refine l_not rfl rfl ?_
  refine l_nil ?_
  first | refine g_cond_f rfl ?_ | refine g_cond_f (congrArg (fun b => some (Value.bool b)) (decide_eq_false hbr)) ?_
  refine g_skip ?_
  refine g_seq ?_
  refine g_region ?_
  refine l_lds rfl Try.isAgg48 Try.sizeOf48 rfl rfl ?_
  refine l_call rfl Try.call17 rfl (laid_ok _ _ fr fm fm0 fm1 wa wn wc Wd hWd.ex hWdU hwn oa on oc hon (by omega) (by omega)) ?_; rintro _ _ ⟨gw, X, rfl, rfl, hXl, hXU⟩
  obtain ⟨n, hn⟩ : ∃ n, (fr * 16).toNat = n := ⟨_, rfl⟩
  rw [hn] at hXl ⊢
  refine l_assign rfl rfl ?_
  refine l_nil ?_
  refine g_seq ?_
  refine g_region ?_
  refine l_move rfl rfl ?_
  refine l_call rfl Try.call14 rfl (copy_words _ _ (some ⟨gw, 0, none⟩) n n X (IR.own hXl (by first | exact mem_getO 0 rfl | exact mem_getO 1 rfl | exact mem_getO 2 rfl | exact mem_getO 3 rfl | exact mem_getO 4 rfl | exact mem_getO 5 rfl | exact mem_getO 6 rfl | exact mem_getO 7 rfl | exact mem_getO 8 rfl | exact mem_getO 9 rfl | exact mem_getO 10 rfl | exact mem_getO 11 rfl | exact mem_getO 12 rfl | exact mem_getO 13 rfl | exact mem_getO 14 rfl | exact mem_getO 15 rfl) (.inr ⟨_, rfl⟩)) (by omega) hXU) ?_; rintro _ _ ⟨g18, rfl, rfl⟩
  refine l_call rfl Try.call18 rfl (of_ok _ _ g18 0 n n X hXl (by omega) (.own (mem_getO 0 rfl)) (by omega) (by omega) (by omega)) ?_; rintro _ _ ⟨b, g, c, rfl, hc, rfl⟩
  refine l_move rfl rfl ?_
  refine l_extract rfl rfl rfl ?_
  refine l_extract rfl rfl rfl ?_
  refine l_assign rfl rfl ?_
  refine l_assign rfl rfl ?_
  refine l_nil ?_
  refine g_seq ?_
  refine g_seq ?_
  refine g_region ?_
  refine l_move rfl rfl ?_
  refine l_neq rfl rfl rfl ?_
  refine l_nil ?_
  refine g_cond rfl ?_ ?_
  · intro hbr
    have hbr := of_decide_eq_true hbr
    (exfalso; first | omega | (simp at hbr; done))
  intro hbr
  have hbr := of_decide_eq_false hbr
  refine g_skip ?_
  refine g_seq ?_
  refine g_seq ?_
  refine g_region ?_
  refine l_assign rfl rfl ?_
  refine l_nil ?_
  refine g_block ?_
  refine g_loopk (X := Int × Nat × Nat × List Int) [(1, _), (4, _)] (.cons rfl (.cons rfl (.nil))) (fun z => 0 ≤ z.1 ∧ z.1 ≤ on ∧ n ≤ z.2.2.1 ∧ z.2.2.2.length = n ∧ W32s z.2.2.2) (fun z => ((on : Int) - z.1).toNat) (fun z => [(3, .slice (some ⟨z.2.1, 0, none⟩) n z.2.2.1), (6, .int .i64 z.1)]) (fun z => Blk b (.cells [Value.slice (some ⟨g, 0, none⟩) n c].toArray 76 (0, 0)) :: Own 33 1 (.slice (some ⟨g, 0, none⟩) n c) n (ints .u32 z.2.2.2) :: Own 33 1 (.slice (some ⟨z.2.1, 0, none⟩) n z.2.2.1) n (ints .u32 z.2.2.2) :: Blk b1 (.cells [Value.int .i64 (fr : Int), .int .i64 fm, .slice wa wn wc, .slice oa on oc].toArray 48 (0, 0)) :: F) ((0, gw, n, X)) (⟨by simp only; omega, by simp only; omega, Nat.le_refl _, hXl, hXU⟩) (.cons rfl (.cons rfl .nil)) ((fun w hw => SPI.holds hw)) ?_
  rintro ⟨i, gd, cd, W⟩ ⟨i0, i1, hcd, hWl, hWU⟩ ih
  dsimp only [List.cons_append, List.nil_append] at ih ⊢
  simp only at i0 i1 hcd hWl hWU
  refine g_seq ?_
  refine g_seq ?_
  refine g_region ?_
  refine l_move rfl rfl ?_
  refine l_fieldAddr rfl fa_48_3 rfl ?_
  refine l_ld rfl Try.isAgg46 rfl rfl ?_
  refine l_len rfl Try.underlying46 rfl ?_
  refine l_lss rfl rfl rfl ?_
  refine l_nil ?_
  refine g_cond rfl ?_ ?_
  · intro hbr
    have hbr := of_decide_eq_true hbr
    refine g_skip ?_
    refine g_seq ?_
    refine g_block ?_
    refine g_seq ?_
    refine g_region ?_
    refine l_fieldAddr rfl fa_48_3 rfl ?_
    refine l_ld rfl Try.isAgg46 rfl rfl ?_
    refine l_move rfl rfl ?_
    obtain ⟨b9, q9, rfl, hr9⟩ := hs.resolve_left (show ¬ on = 0 by omega)
    obtain ⟨⟨kd, at_, wd, dp, ap, np, cp, P, am, nm, cm, M⟩, hrow, o1, o2, o3, o4, o5, o6, o7, o8⟩ := op_at hok (show i.toNat < L.length by omega)
    simp only at o1 o2 o3 o4 o5 o6 o7 o8
    refine l_ixs rfl Try.underlying46 Try.sizeOf54 rfl rfl (by omega) (by omega) ?_
    refine l_loadr (l := [Value.int .i64 kd, .int .i64 at_, .int .i64 wd, .int .i64 dp, .slice ap np cp, .slice am nm cm]) rfl Try.isAgg54 Try.sizeOf54 rfl rfl (row_elem hr9.ex (opV_len L) hrow) ?_
    refine l_allocs rfl Try.zeroValue54 ?_; intro b7
    refine l_sts Try.sizeOf54 rfl rfl rfl rfl rfl ?_
    refine l_nil ?_
    refine g_seq ?_
    refine g_region ?_
    refine l_fieldAddr rfl fa_54_2 rfl ?_
    first | refine l_ld rfl Try.isAgg3 rfl rfl ?_ | refine l_ldw rfl Try.isAgg3 rfl (by omega) ?_
    refine l_geq rfl rfl rfl ?_
    refine l_move rfl rfl ?_
    refine l_split 39 rfl ?_ ?_
    · intro hbr
      have hbr := of_decide_eq_true hbr
      refine l_guard_yes rfl rfl ?_
      refine l_fieldAddr rfl fa_54_2 rfl ?_
      refine l_guard_yes rfl rfl ?_
      first | refine l_ld rfl Try.isAgg3 rfl rfl ?_ | refine l_ldw rfl Try.isAgg3 rfl (by omega) ?_
      refine l_guard_yes rfl rfl ?_
      refine l_leq rfl rfl rfl ?_
      refine l_pick_t rfl rfl rfl ?_
      refine l_move rfl rfl ?_
      refine l_split 44 rfl ?_ ?_
      · intro hbr
        have hbr := of_decide_eq_true hbr
        refine l_guard_yes rfl rfl ?_
        refine l_fieldAddr rfl fa_54_3 rfl ?_
        refine l_guard_yes rfl rfl ?_
        first | refine l_ld rfl Try.isAgg3 rfl rfl ?_ | refine l_ldw rfl Try.isAgg3 rfl (by omega) ?_
        refine l_guard_yes rfl rfl ?_
        refine l_geq rfl rfl rfl ?_
        refine l_pick_t rfl rfl rfl ?_
        refine l_move rfl rfl ?_
        refine l_split 49 rfl ?_ ?_
        · intro hbr
          have hbr := of_decide_eq_true hbr
          refine l_guard_yes rfl rfl ?_
          refine l_fieldAddr rfl fa_54_3 rfl ?_
          refine l_guard_yes rfl rfl ?_
          first | refine l_ld rfl Try.isAgg3 rfl rfl ?_ | refine l_ldw rfl Try.isAgg3 rfl (by omega) ?_
          refine l_guard_yes rfl rfl ?_
          refine l_leq rfl rfl rfl ?_
          refine l_pick_t rfl rfl rfl ?_
          refine l_assign rfl rfl ?_
          refine l_nil ?_
          refine g_seq ?_
          refine g_seq ?_
          refine g_region ?_
          refine l_fieldAddr rfl fa_54_0 rfl ?_
          first | refine l_ld rfl Try.isAgg3 rfl rfl ?_ | refine l_ldw rfl Try.isAgg3 rfl (by omega) ?_
          refine l_eql rfl rfl rfl ?_
          refine l_move rfl rfl ?_
          refine l_split 57 rfl ?_ ?_
          · intro hbr
            have hbr := of_decide_eq_true hbr
            refine l_guard_yes rfl rfl ?_
            refine l_move rfl rfl ?_
            refine l_pick_t rfl rfl rfl ?_
            refine l_move rfl rfl ?_
            refine l_split 60 rfl ?_ ?_
            · intro hbr
              have hbr := of_decide_eq_true hbr
              refine l_guard_yes rfl rfl ?_
              refine l_fieldAddr rfl fa_54_4 rfl ?_
              refine l_guard_yes rfl rfl ?_
              refine l_ld rfl Try.isAgg52 rfl rfl ?_
              refine l_guard_yes rfl rfl ?_
              refine l_len rfl Try.underlying52 rfl ?_
              refine l_guard_yes rfl rfl ?_
              refine l_leq rfl rfl rfl ?_
              refine l_pick_t rfl rfl rfl ?_
              refine l_move rfl rfl ?_
              refine l_split 66 rfl ?_ ?_
              · intro hbr
                have hbr := of_decide_eq_true hbr
                refine l_guard_yes rfl rfl ?_
                refine l_fieldAddr rfl fa_54_1 rfl ?_
                refine l_guard_yes rfl rfl ?_
                first | refine l_ld rfl Try.isAgg3 rfl rfl ?_ | refine l_ldw rfl Try.isAgg3 rfl (by omega) ?_
                refine l_guard_yes rfl rfl ?_
                refine l_fieldAddr rfl fa_54_2 rfl ?_
                refine l_guard_yes rfl rfl ?_
                first | refine l_ld rfl Try.isAgg3 rfl rfl ?_ | refine l_ldw rfl Try.isAgg3 rfl (by omega) ?_
                refine l_guard_yes rfl rfl ?_
                refine l_fieldAddr rfl fa_54_3 rfl ?_
                refine l_guard_yes rfl rfl ?_
                first | refine l_ld rfl Try.isAgg3 rfl rfl ?_ | refine l_ldw rfl Try.isAgg3 rfl (by omega) ?_
                refine l_guard_yes rfl rfl ?_
                refine l_fieldAddr rfl fa_54_4 rfl ?_
                refine l_guard_yes rfl rfl ?_
                refine l_ld rfl Try.isAgg52 rfl rfl ?_
                refine l_guard_yes rfl rfl ?_
                refine l_call rfl Try.call19 rfl (rapart_any _ _ at_ wd dp (by unfold QOk; omega) ap np cp P o5.ex (by omega)) ?_; rintro _ F9 ⟨okA, rfl, hF9⟩; rw [hF9]; clear hF9 F9
                refine l_guard_yes rfl rfl ?_
                refine l_not rfl rfl ?_
                refine l_pick_t rfl rfl rfl ?_
                refine l_nil ?_
                refine g_cond rfl ?_ ?_
                · intro hbr
                  have hb77 := hbr
                  refine g_seq ?_
                  refine g_region ?_
                  refine l_assign rfl rfl ?_
                  refine l_nil ?_
                  refine g_ret Try.func5 rfl (.tmp rfl .nil) ?_
                  exact Gives.mki ⟨rfl, rfl⟩
                intro hbr
                have hb77 := hbr
                refine g_skip ?_
                refine g_seq ?_
                refine g_region ?_
                refine l_move rfl rfl ?_
                refine l_move rfl rfl ?_
                refine l_lds rfl Try.isAgg54 Try.sizeOf54 rfl rfl ?_
                refine l_take (Own 33 1 (.slice (some ⟨gd, 0, none⟩) n cd) n (ints .u32 W)) ?_
                refine l_take (Own 33 1 (.slice (some ⟨g, 0, none⟩) n c) n (ints .u32 W)) ?_
                refine l_take (Blk b (.cells [Value.slice (some ⟨g, 0, none⟩) n c].toArray 76 (0, 0))) ?_
                refine l_call rfl Try.call20 rfl (step_ok _ _ b g n c W hWl hc (by omega) hWU gd cd hcd kd at_ wd dp o1.1 o1.2 ap np cp P o5.ex o6 o7 am nm cm M o4.1.ex o4.2.1 o4.2.2) ?_; rintro _ _ ⟨g2, c2, W2, rfl, hc2, hWl2, hWU2, rfl⟩
                refine l_move rfl rfl ?_
                refine l_extract rfl rfl rfl ?_
                refine l_extract rfl rfl rfl ?_
                refine l_assign rfl rfl ?_
                refine l_assign rfl rfl ?_
                refine l_nil ?_
                refine g_seq ?_
                refine g_seq ?_
                refine g_region ?_
                refine l_move rfl rfl ?_
                refine l_not rfl rfl ?_
                refine l_nil ?_
                refine g_cond rfl ?_ ?_
                · intro hbr
                  first | (exfalso; simp at hbr; done) | (exfalso; simp at hbr; omega) | (exfalso; first | omega | (simp at hbr; done))
                intro hbr
                have hb86 := hbr
                refine g_skip ?_
                refine g_seq ?_
                refine g_region ?_
                refine l_move rfl rfl ?_
                refine l_assign rfl rfl ?_
                refine l_nil ?_
                refine g_seq ?_
                refine g_region ?_
                refine l_move rfl rfl ?_
                refine l_take (Own 33 1 (.slice (some ⟨g, 0, none⟩) n c) n (ints .u32 W2)) ?_
                refine l_take (Blk b (.cells [Value.slice (some ⟨g, 0, none⟩) n c].toArray 76 (0, 0))) ?_
                refine l_call rfl Try.call21 rfl (words_ok _ _ b g n c W2 hWl2 hc (by omega)) ?_; rintro _ _ ⟨ga, ca, rfl, hca, rfl⟩
                refine l_move rfl rfl ?_
                refine l_call rfl Try.call15 rfl (same_words _ _ (some ⟨ga, 0, none⟩) (some ⟨g2, 0, none⟩) n ca c2 W2 (IR.own hWl2 (by first | exact mem_getO 0 rfl | exact mem_getO 1 rfl | exact mem_getO 2 rfl | exact mem_getO 3 rfl | exact mem_getO 4 rfl | exact mem_getO 5 rfl | exact mem_getO 6 rfl | exact mem_getO 7 rfl | exact mem_getO 8 rfl | exact mem_getO 9 rfl | exact mem_getO 10 rfl | exact mem_getO 11 rfl | exact mem_getO 12 rfl | exact mem_getO 13 rfl | exact mem_getO 14 rfl | exact mem_getO 15 rfl) (.inr ⟨_, rfl⟩)) (IR.own hWl2 (by first | exact mem_getO 0 rfl | exact mem_getO 1 rfl | exact mem_getO 2 rfl | exact mem_getO 3 rfl | exact mem_getO 4 rfl | exact mem_getO 5 rfl | exact mem_getO 6 rfl | exact mem_getO 7 rfl | exact mem_getO 8 rfl | exact mem_getO 9 rfl | exact mem_getO 10 rfl | exact mem_getO 11 rfl | exact mem_getO 12 rfl | exact mem_getO 13 rfl | exact mem_getO 14 rfl | exact mem_getO 15 rfl) (.inr ⟨_, rfl⟩)) hWU2 (by omega)) ?_; rintro _ _ ⟨rfl, rfl⟩
                refine l_not rfl rfl ?_
                refine l_nil ?_
                first | refine g_cond_f rfl ?_ | refine g_cond_f (congrArg (fun b => some (Value.bool b)) (decide_eq_false hbr)) ?_
                refine g_skip ?_
                refine g_inBlock ?_
                refine g_region ?_
                refine l_move rfl rfl ?_
                first | refine l_add rfl rfl rfl (w_i64 (by omega) (by omega)) ?_ | refine l_addw rfl rfl rfl ?_
                refine l_assign rfl rfl ?_
                refine l_nil ?_
                exact g_againi (ih (i + 1, g2, c2, W2) ⟨by simp only; omega, by simp only; omega, hc2, hWl2, hWU2⟩ (by simp only; omega)) (.cons rfl (.cons rfl (.cons rfl (.cons rfl (.nil)))))
              intro hbr
              have hbr := of_decide_eq_false hbr
              refine l_guard_no rfl rfl rfl ?_
              refine l_guard_no rfl rfl rfl ?_
              refine l_guard_no rfl rfl rfl ?_
              refine l_guard_no rfl rfl rfl ?_
              refine l_guard_no rfl rfl rfl ?_
              refine l_guard_no rfl rfl rfl ?_
              refine l_guard_no rfl rfl rfl ?_
              refine l_guard_no rfl rfl rfl ?_
              refine l_guard_no rfl rfl rfl ?_
              refine l_guard_no rfl rfl rfl ?_
              refine l_pick_f rfl rfl rfl ?_
              refine l_nil ?_
              first | refine g_cond_f rfl ?_ | refine g_cond_f (congrArg (fun b => some (Value.bool b)) (decide_eq_false hbr)) ?_
              refine g_skip ?_
              refine g_seq ?_
              refine g_region ?_
              refine l_move rfl rfl ?_
              refine l_move rfl rfl ?_
              refine l_lds rfl Try.isAgg54 Try.sizeOf54 rfl rfl ?_
              refine l_take (Own 33 1 (.slice (some ⟨gd, 0, none⟩) n cd) n (ints .u32 W)) ?_
              refine l_take (Own 33 1 (.slice (some ⟨g, 0, none⟩) n c) n (ints .u32 W)) ?_
              refine l_take (Blk b (.cells [Value.slice (some ⟨g, 0, none⟩) n c].toArray 76 (0, 0))) ?_
              refine l_call rfl Try.call20 rfl (step_ok _ _ b g n c W hWl hc (by omega) hWU gd cd hcd kd at_ wd dp o1.1 o1.2 ap np cp P o5.ex o6 o7 am nm cm M o4.1.ex o4.2.1 o4.2.2) ?_; rintro _ _ ⟨g2, c2, W2, rfl, hc2, hWl2, hWU2, rfl⟩
              refine l_move rfl rfl ?_
              refine l_extract rfl rfl rfl ?_
              refine l_extract rfl rfl rfl ?_
              refine l_assign rfl rfl ?_
              refine l_assign rfl rfl ?_
              refine l_nil ?_
              refine g_seq ?_
              refine g_seq ?_
              refine g_region ?_
              refine l_move rfl rfl ?_
              refine l_not rfl rfl ?_
              refine l_nil ?_
              refine g_cond rfl ?_ ?_
              · intro hbr
                first | (exfalso; simp at hbr; done) | (exfalso; simp at hbr; omega) | (exfalso; first | omega | (simp at hbr; done))
              intro hbr
              have hb86 := hbr
              refine g_skip ?_
              refine g_seq ?_
              refine g_region ?_
              refine l_move rfl rfl ?_
              refine l_assign rfl rfl ?_
              refine l_nil ?_
              refine g_seq ?_
              refine g_region ?_
              refine l_move rfl rfl ?_
              refine l_take (Own 33 1 (.slice (some ⟨g, 0, none⟩) n c) n (ints .u32 W2)) ?_
              refine l_take (Blk b (.cells [Value.slice (some ⟨g, 0, none⟩) n c].toArray 76 (0, 0))) ?_
              refine l_call rfl Try.call21 rfl (words_ok _ _ b g n c W2 hWl2 hc (by omega)) ?_; rintro _ _ ⟨ga, ca, rfl, hca, rfl⟩
              refine l_move rfl rfl ?_
              refine l_call rfl Try.call15 rfl (same_words _ _ (some ⟨ga, 0, none⟩) (some ⟨g2, 0, none⟩) n ca c2 W2 (IR.own hWl2 (by first | exact mem_getO 0 rfl | exact mem_getO 1 rfl | exact mem_getO 2 rfl | exact mem_getO 3 rfl | exact mem_getO 4 rfl | exact mem_getO 5 rfl | exact mem_getO 6 rfl | exact mem_getO 7 rfl | exact mem_getO 8 rfl | exact mem_getO 9 rfl | exact mem_getO 10 rfl | exact mem_getO 11 rfl | exact mem_getO 12 rfl | exact mem_getO 13 rfl | exact mem_getO 14 rfl | exact mem_getO 15 rfl) (.inr ⟨_, rfl⟩)) (IR.own hWl2 (by first | exact mem_getO 0 rfl | exact mem_getO 1 rfl | exact mem_getO 2 rfl | exact mem_getO 3 rfl | exact mem_getO 4 rfl | exact mem_getO 5 rfl | exact mem_getO 6 rfl | exact mem_getO 7 rfl | exact mem_getO 8 rfl | exact mem_getO 9 rfl | exact mem_getO 10 rfl | exact mem_getO 11 rfl | exact mem_getO 12 rfl | exact mem_getO 13 rfl | exact mem_getO 14 rfl | exact mem_getO 15 rfl) (.inr ⟨_, rfl⟩)) hWU2 (by omega)) ?_; rintro _ _ ⟨rfl, rfl⟩
              refine l_not rfl rfl ?_
              refine l_nil ?_
              first | refine g_cond_f rfl ?_ | refine g_cond_f (congrArg (fun b => some (Value.bool b)) (decide_eq_false hbr)) ?_
              refine g_skip ?_
              refine g_inBlock ?_
              refine g_region ?_
              refine l_move rfl rfl ?_
              first | refine l_add rfl rfl rfl (w_i64 (by omega) (by omega)) ?_ | refine l_addw rfl rfl rfl ?_
              refine l_assign rfl rfl ?_
              refine l_nil ?_
              exact g_againi (ih (i + 1, g2, c2, W2) ⟨by simp only; omega, by simp only; omega, hc2, hWl2, hWU2⟩ (by simp only; omega)) (.cons rfl (.cons rfl (.cons rfl (.cons rfl (.nil)))))
            intro hbr
            have hbr := of_decide_eq_false hbr
            refine l_guard_no rfl rfl rfl ?_
            refine l_guard_no rfl rfl rfl ?_
            refine l_guard_no rfl rfl rfl ?_
            refine l_guard_no rfl rfl rfl ?_
            refine l_pick_f rfl rfl rfl ?_
            refine l_move rfl rfl ?_
            refine l_guard_no rfl rfl rfl ?_
            refine l_guard_no rfl rfl rfl ?_
            refine l_guard_no rfl rfl rfl ?_
            refine l_guard_no rfl rfl rfl ?_
            refine l_guard_no rfl rfl rfl ?_
            refine l_guard_no rfl rfl rfl ?_
            refine l_guard_no rfl rfl rfl ?_
            refine l_guard_no rfl rfl rfl ?_
            refine l_guard_no rfl rfl rfl ?_
            refine l_guard_no rfl rfl rfl ?_
            refine l_pick_f rfl rfl rfl ?_
            refine l_nil ?_
            first | refine g_cond_f rfl ?_ | refine g_cond_f (congrArg (fun b => some (Value.bool b)) (decide_eq_false hbr)) ?_
            refine g_skip ?_
            refine g_seq ?_
            refine g_region ?_
            refine l_move rfl rfl ?_
            refine l_move rfl rfl ?_
            refine l_lds rfl Try.isAgg54 Try.sizeOf54 rfl rfl ?_
            refine l_take (Own 33 1 (.slice (some ⟨gd, 0, none⟩) n cd) n (ints .u32 W)) ?_
            refine l_take (Own 33 1 (.slice (some ⟨g, 0, none⟩) n c) n (ints .u32 W)) ?_
            refine l_take (Blk b (.cells [Value.slice (some ⟨g, 0, none⟩) n c].toArray 76 (0, 0))) ?_
            refine l_call rfl Try.call20 rfl (step_ok _ _ b g n c W hWl hc (by omega) hWU gd cd hcd kd at_ wd dp o1.1 o1.2 ap np cp P o5.ex o6 o7 am nm cm M o4.1.ex o4.2.1 o4.2.2) ?_; rintro _ _ ⟨g2, c2, W2, rfl, hc2, hWl2, hWU2, rfl⟩
            refine l_move rfl rfl ?_
            refine l_extract rfl rfl rfl ?_
            refine l_extract rfl rfl rfl ?_
            refine l_assign rfl rfl ?_
            refine l_assign rfl rfl ?_
            refine l_nil ?_
            refine g_seq ?_
            refine g_seq ?_
            refine g_region ?_
            refine l_move rfl rfl ?_
            refine l_not rfl rfl ?_
            refine l_nil ?_
            refine g_cond rfl ?_ ?_
            · intro hbr
              first | (exfalso; simp at hbr; done) | (exfalso; simp at hbr; omega) | (exfalso; first | omega | (simp at hbr; done))
            intro hbr
            have hb86 := hbr
            refine g_skip ?_
            refine g_seq ?_
            refine g_region ?_
            refine l_move rfl rfl ?_
            refine l_assign rfl rfl ?_
            refine l_nil ?_
            refine g_seq ?_
            refine g_region ?_
            refine l_move rfl rfl ?_
            refine l_take (Own 33 1 (.slice (some ⟨g, 0, none⟩) n c) n (ints .u32 W2)) ?_
            refine l_take (Blk b (.cells [Value.slice (some ⟨g, 0, none⟩) n c].toArray 76 (0, 0))) ?_
            refine l_call rfl Try.call21 rfl (words_ok _ _ b g n c W2 hWl2 hc (by omega)) ?_; rintro _ _ ⟨ga, ca, rfl, hca, rfl⟩
            refine l_move rfl rfl ?_
            refine l_call rfl Try.call15 rfl (same_words _ _ (some ⟨ga, 0, none⟩) (some ⟨g2, 0, none⟩) n ca c2 W2 (IR.own hWl2 (by first | exact mem_getO 0 rfl | exact mem_getO 1 rfl | exact mem_getO 2 rfl | exact mem_getO 3 rfl | exact mem_getO 4 rfl | exact mem_getO 5 rfl | exact mem_getO 6 rfl | exact mem_getO 7 rfl | exact mem_getO 8 rfl | exact mem_getO 9 rfl | exact mem_getO 10 rfl | exact mem_getO 11 rfl | exact mem_getO 12 rfl | exact mem_getO 13 rfl | exact mem_getO 14 rfl | exact mem_getO 15 rfl) (.inr ⟨_, rfl⟩)) (IR.own hWl2 (by first | exact mem_getO 0 rfl | exact mem_getO 1 rfl | exact mem_getO 2 rfl | exact mem_getO 3 rfl | exact mem_getO 4 rfl | exact mem_getO 5 rfl | exact mem_getO 6 rfl | exact mem_getO 7 rfl | exact mem_getO 8 rfl | exact mem_getO 9 rfl | exact mem_getO 10 rfl | exact mem_getO 11 rfl | exact mem_getO 12 rfl | exact mem_getO 13 rfl | exact mem_getO 14 rfl | exact mem_getO 15 rfl) (.inr ⟨_, rfl⟩)) hWU2 (by omega)) ?_; rintro _ _ ⟨rfl, rfl⟩
            refine l_not rfl rfl ?_
            refine l_nil ?_
            first | refine g_cond_f rfl ?_ | refine g_cond_f (congrArg (fun b => some (Value.bool b)) (decide_eq_false hbr)) ?_
            refine g_skip ?_
            refine g_inBlock ?_
            refine g_region ?_
            refine l_move rfl rfl ?_
            first | refine l_add rfl rfl rfl (w_i64 (by omega) (by omega)) ?_ | refine l_addw rfl rfl rfl ?_
            refine l_assign rfl rfl ?_
            refine l_nil ?_
            exact g_againi (ih (i + 1, g2, c2, W2) ⟨by simp only; omega, by simp only; omega, hc2, hWl2, hWU2⟩ (by simp only; omega)) (.cons rfl (.cons rfl (.cons rfl (.cons rfl (.nil)))))
          intro hbr
          have hbr := of_decide_eq_false hbr
          refine l_guard_no rfl rfl rfl ?_
          refine l_pick_f rfl rfl rfl ?_
          refine l_move rfl rfl ?_
          refine l_guard_no rfl rfl rfl ?_
          refine l_guard_no rfl rfl rfl ?_
          refine l_guard_no rfl rfl rfl ?_
          refine l_guard_no rfl rfl rfl ?_
          refine l_pick_f rfl rfl rfl ?_
          refine l_move rfl rfl ?_
          refine l_guard_no rfl rfl rfl ?_
          refine l_guard_no rfl rfl rfl ?_
          refine l_guard_no rfl rfl rfl ?_
          refine l_guard_no rfl rfl rfl ?_
          refine l_guard_no rfl rfl rfl ?_
          refine l_guard_no rfl rfl rfl ?_
          refine l_guard_no rfl rfl rfl ?_
          refine l_guard_no rfl rfl rfl ?_
          refine l_guard_no rfl rfl rfl ?_
          refine l_guard_no rfl rfl rfl ?_
          refine l_pick_f rfl rfl rfl ?_
          refine l_nil ?_
          first | refine g_cond_f rfl ?_ | refine g_cond_f (congrArg (fun b => some (Value.bool b)) (decide_eq_false hbr)) ?_
          refine g_skip ?_
          refine g_seq ?_
          refine g_region ?_
          refine l_move rfl rfl ?_
          refine l_move rfl rfl ?_
          refine l_lds rfl Try.isAgg54 Try.sizeOf54 rfl rfl ?_
          refine l_take (Own 33 1 (.slice (some ⟨gd, 0, none⟩) n cd) n (ints .u32 W)) ?_
          refine l_take (Own 33 1 (.slice (some ⟨g, 0, none⟩) n c) n (ints .u32 W)) ?_
          refine l_take (Blk b (.cells [Value.slice (some ⟨g, 0, none⟩) n c].toArray 76 (0, 0))) ?_
          refine l_call rfl Try.call20 rfl (step_ok _ _ b g n c W hWl hc (by omega) hWU gd cd hcd kd at_ wd dp o1.1 o1.2 ap np cp P o5.ex o6 o7 am nm cm M o4.1.ex o4.2.1 o4.2.2) ?_; rintro _ _ ⟨g2, c2, W2, rfl, hc2, hWl2, hWU2, rfl⟩
          refine l_move rfl rfl ?_
          refine l_extract rfl rfl rfl ?_
          refine l_extract rfl rfl rfl ?_
          refine l_assign rfl rfl ?_
          refine l_assign rfl rfl ?_
          refine l_nil ?_
          refine g_seq ?_
          refine g_seq ?_
          refine g_region ?_
          refine l_move rfl rfl ?_
          refine l_not rfl rfl ?_
          refine l_nil ?_
          refine g_cond rfl ?_ ?_
          · intro hbr
            first | (exfalso; simp at hbr; done) | (exfalso; simp at hbr; omega) | (exfalso; first | omega | (simp at hbr; done))
          intro hbr
          have hb86 := hbr
          refine g_skip ?_
          refine g_seq ?_
          refine g_region ?_
          refine l_move rfl rfl ?_
          refine l_assign rfl rfl ?_
          refine l_nil ?_
          refine g_seq ?_
          refine g_region ?_
          refine l_move rfl rfl ?_
          refine l_take (Own 33 1 (.slice (some ⟨g, 0, none⟩) n c) n (ints .u32 W2)) ?_
          refine l_take (Blk b (.cells [Value.slice (some ⟨g, 0, none⟩) n c].toArray 76 (0, 0))) ?_
          refine l_call rfl Try.call21 rfl (words_ok _ _ b g n c W2 hWl2 hc (by omega)) ?_; rintro _ _ ⟨ga, ca, rfl, hca, rfl⟩
          refine l_move rfl rfl ?_
          refine l_call rfl Try.call15 rfl (same_words _ _ (some ⟨ga, 0, none⟩) (some ⟨g2, 0, none⟩) n ca c2 W2 (IR.own hWl2 (by first | exact mem_getO 0 rfl | exact mem_getO 1 rfl | exact mem_getO 2 rfl | exact mem_getO 3 rfl | exact mem_getO 4 rfl | exact mem_getO 5 rfl | exact mem_getO 6 rfl | exact mem_getO 7 rfl | exact mem_getO 8 rfl | exact mem_getO 9 rfl | exact mem_getO 10 rfl | exact mem_getO 11 rfl | exact mem_getO 12 rfl | exact mem_getO 13 rfl | exact mem_getO 14 rfl | exact mem_getO 15 rfl) (.inr ⟨_, rfl⟩)) (IR.own hWl2 (by first | exact mem_getO 0 rfl | exact mem_getO 1 rfl | exact mem_getO 2 rfl | exact mem_getO 3 rfl | exact mem_getO 4 rfl | exact mem_getO 5 rfl | exact mem_getO 6 rfl | exact mem_getO 7 rfl | exact mem_getO 8 rfl | exact mem_getO 9 rfl | exact mem_getO 10 rfl | exact mem_getO 11 rfl | exact mem_getO 12 rfl | exact mem_getO 13 rfl | exact mem_getO 14 rfl | exact mem_getO 15 rfl) (.inr ⟨_, rfl⟩)) hWU2 (by omega)) ?_; rintro _ _ ⟨rfl, rfl⟩
          refine l_not rfl rfl ?_
          refine l_nil ?_
          first | refine g_cond_f rfl ?_ | refine g_cond_f (congrArg (fun b => some (Value.bool b)) (decide_eq_false hbr)) ?_
          refine g_skip ?_
          refine g_inBlock ?_
          refine g_region ?_
          refine l_move rfl rfl ?_
          first | refine l_add rfl rfl rfl (w_i64 (by omega) (by omega)) ?_ | refine l_addw rfl rfl rfl ?_
          refine l_assign rfl rfl ?_
          refine l_nil ?_
          exact g_againi (ih (i + 1, g2, c2, W2) ⟨by simp only; omega, by simp only; omega, hc2, hWl2, hWU2⟩ (by simp only; omega)) (.cons rfl (.cons rfl (.cons rfl (.cons rfl (.nil)))))
        intro hbr
        have hbr := of_decide_eq_false hbr
        refine l_guard_no rfl rfl rfl ?_
        refine l_guard_no rfl rfl rfl ?_
        refine l_guard_no rfl rfl rfl ?_
        refine l_pick_f rfl rfl rfl ?_
        refine l_assign rfl rfl ?_
        refine l_nil ?_
        refine g_seq ?_
        refine g_seq ?_
        refine g_region ?_
        refine l_fieldAddr rfl fa_54_0 rfl ?_
        first | refine l_ld rfl Try.isAgg3 rfl rfl ?_ | refine l_ldw rfl Try.isAgg3 rfl (by omega) ?_
        refine l_eql rfl rfl rfl ?_
        refine l_move rfl rfl ?_
        refine l_split 57 rfl ?_ ?_
        · intro hbr
          have hbr := of_decide_eq_true hbr
          refine l_guard_yes rfl rfl ?_
          refine l_move rfl rfl ?_
          refine l_pick_t rfl rfl rfl ?_
          refine l_move rfl rfl ?_
          refine l_guard_no rfl rfl rfl ?_
          refine l_guard_no rfl rfl rfl ?_
          refine l_guard_no rfl rfl rfl ?_
          refine l_guard_no rfl rfl rfl ?_
          refine l_pick_f rfl rfl rfl ?_
          refine l_move rfl rfl ?_
          refine l_guard_no rfl rfl rfl ?_
          refine l_guard_no rfl rfl rfl ?_
          refine l_guard_no rfl rfl rfl ?_
          refine l_guard_no rfl rfl rfl ?_
          refine l_guard_no rfl rfl rfl ?_
          refine l_guard_no rfl rfl rfl ?_
          refine l_guard_no rfl rfl rfl ?_
          refine l_guard_no rfl rfl rfl ?_
          refine l_guard_no rfl rfl rfl ?_
          refine l_guard_no rfl rfl rfl ?_
          refine l_pick_f rfl rfl rfl ?_
          refine l_nil ?_
          first | refine g_cond_f rfl ?_ | refine g_cond_f (congrArg (fun b => some (Value.bool b)) (decide_eq_false hbr)) ?_
          refine g_skip ?_
          refine g_seq ?_
          refine g_region ?_
          refine l_move rfl rfl ?_
          refine l_move rfl rfl ?_
          refine l_lds rfl Try.isAgg54 Try.sizeOf54 rfl rfl ?_
          refine l_take (Own 33 1 (.slice (some ⟨gd, 0, none⟩) n cd) n (ints .u32 W)) ?_
          refine l_take (Own 33 1 (.slice (some ⟨g, 0, none⟩) n c) n (ints .u32 W)) ?_
          refine l_take (Blk b (.cells [Value.slice (some ⟨g, 0, none⟩) n c].toArray 76 (0, 0))) ?_
          refine l_call rfl Try.call20 rfl (step_ok _ _ b g n c W hWl hc (by omega) hWU gd cd hcd kd at_ wd dp o1.1 o1.2 ap np cp P o5.ex o6 o7 am nm cm M o4.1.ex o4.2.1 o4.2.2) ?_; rintro _ _ ⟨g2, c2, W2, rfl, hc2, hWl2, hWU2, rfl⟩
          refine l_move rfl rfl ?_
          refine l_extract rfl rfl rfl ?_
          refine l_extract rfl rfl rfl ?_
          refine l_assign rfl rfl ?_
          refine l_assign rfl rfl ?_
          refine l_nil ?_
          refine g_seq ?_
          refine g_seq ?_
          refine g_region ?_
          refine l_move rfl rfl ?_
          refine l_not rfl rfl ?_
          refine l_nil ?_
          refine g_cond rfl ?_ ?_
          · intro hbr
            first | (exfalso; simp at hbr; done) | (exfalso; simp at hbr; omega) | (exfalso; first | omega | (simp at hbr; done))
          intro hbr
          have hb86 := hbr
          refine g_skip ?_
          refine g_seq ?_
          refine g_region ?_
          refine l_move rfl rfl ?_
          refine l_assign rfl rfl ?_
          refine l_nil ?_
          refine g_seq ?_
          refine g_region ?_
          refine l_move rfl rfl ?_
          refine l_take (Own 33 1 (.slice (some ⟨g, 0, none⟩) n c) n (ints .u32 W2)) ?_
          refine l_take (Blk b (.cells [Value.slice (some ⟨g, 0, none⟩) n c].toArray 76 (0, 0))) ?_
          refine l_call rfl Try.call21 rfl (words_ok _ _ b g n c W2 hWl2 hc (by omega)) ?_; rintro _ _ ⟨ga, ca, rfl, hca, rfl⟩
          refine l_move rfl rfl ?_
          refine l_call rfl Try.call15 rfl (same_words _ _ (some ⟨ga, 0, none⟩) (some ⟨g2, 0, none⟩) n ca c2 W2 (IR.own hWl2 (by first | exact mem_getO 0 rfl | exact mem_getO 1 rfl | exact mem_getO 2 rfl | exact mem_getO 3 rfl | exact mem_getO 4 rfl | exact mem_getO 5 rfl | exact mem_getO 6 rfl | exact mem_getO 7 rfl | exact mem_getO 8 rfl | exact mem_getO 9 rfl | exact mem_getO 10 rfl | exact mem_getO 11 rfl | exact mem_getO 12 rfl | exact mem_getO 13 rfl | exact mem_getO 14 rfl | exact mem_getO 15 rfl) (.inr ⟨_, rfl⟩)) (IR.own hWl2 (by first | exact mem_getO 0 rfl | exact mem_getO 1 rfl | exact mem_getO 2 rfl | exact mem_getO 3 rfl | exact mem_getO 4 rfl | exact mem_getO 5 rfl | exact mem_getO 6 rfl | exact mem_getO 7 rfl | exact mem_getO 8 rfl | exact mem_getO 9 rfl | exact mem_getO 10 rfl | exact mem_getO 11 rfl | exact mem_getO 12 rfl | exact mem_getO 13 rfl | exact mem_getO 14 rfl | exact mem_getO 15 rfl) (.inr ⟨_, rfl⟩)) hWU2 (by omega)) ?_; rintro _ _ ⟨rfl, rfl⟩
          refine l_not rfl rfl ?_
          refine l_nil ?_
          first | refine g_cond_f rfl ?_ | refine g_cond_f (congrArg (fun b => some (Value.bool b)) (decide_eq_false hbr)) ?_
          refine g_skip ?_
          refine g_inBlock ?_
          refine g_region ?_
          refine l_move rfl rfl ?_
          first | refine l_add rfl rfl rfl (w_i64 (by omega) (by omega)) ?_ | refine l_addw rfl rfl rfl ?_
          refine l_assign rfl rfl ?_
          refine l_nil ?_
          exact g_againi (ih (i + 1, g2, c2, W2) ⟨by simp only; omega, by simp only; omega, hc2, hWl2, hWU2⟩ (by simp only; omega)) (.cons rfl (.cons rfl (.cons rfl (.cons rfl (.nil)))))
        intro hbr
        have hbr := of_decide_eq_false hbr
        refine l_guard_no rfl rfl rfl ?_
        refine l_pick_f rfl rfl rfl ?_
        refine l_move rfl rfl ?_
        refine l_guard_no rfl rfl rfl ?_
        refine l_guard_no rfl rfl rfl ?_
        refine l_guard_no rfl rfl rfl ?_
        refine l_guard_no rfl rfl rfl ?_
        refine l_pick_f rfl rfl rfl ?_
        refine l_move rfl rfl ?_
        refine l_guard_no rfl rfl rfl ?_
        refine l_guard_no rfl rfl rfl ?_
        refine l_guard_no rfl rfl rfl ?_
        refine l_guard_no rfl rfl rfl ?_
        refine l_guard_no rfl rfl rfl ?_
        refine l_guard_no rfl rfl rfl ?_
        refine l_guard_no rfl rfl rfl ?_
        refine l_guard_no rfl rfl rfl ?_
        refine l_guard_no rfl rfl rfl ?_
        refine l_guard_no rfl rfl rfl ?_
        refine l_pick_f rfl rfl rfl ?_
        refine l_nil ?_
        first | refine g_cond_f rfl ?_ | refine g_cond_f (congrArg (fun b => some (Value.bool b)) (decide_eq_false hbr)) ?_
        refine g_skip ?_
        refine g_seq ?_
        refine g_region ?_
        refine l_move rfl rfl ?_
        refine l_move rfl rfl ?_
        refine l_lds rfl Try.isAgg54 Try.sizeOf54 rfl rfl ?_
        refine l_take (Own 33 1 (.slice (some ⟨gd, 0, none⟩) n cd) n (ints .u32 W)) ?_
        refine l_take (Own 33 1 (.slice (some ⟨g, 0, none⟩) n c) n (ints .u32 W)) ?_
        refine l_take (Blk b (.cells [Value.slice (some ⟨g, 0, none⟩) n c].toArray 76 (0, 0))) ?_
        refine l_call rfl Try.call20 rfl (step_ok _ _ b g n c W hWl hc (by omega) hWU gd cd hcd kd at_ wd dp o1.1 o1.2 ap np cp P o5.ex o6 o7 am nm cm M o4.1.ex o4.2.1 o4.2.2) ?_; rintro _ _ ⟨g2, c2, W2, rfl, hc2, hWl2, hWU2, rfl⟩
        refine l_move rfl rfl ?_
        refine l_extract rfl rfl rfl ?_
        refine l_extract rfl rfl rfl ?_
        refine l_assign rfl rfl ?_
        refine l_assign rfl rfl ?_
        refine l_nil ?_
        refine g_seq ?_
        refine g_seq ?_
        refine g_region ?_
        refine l_move rfl rfl ?_
        refine l_not rfl rfl ?_
        refine l_nil ?_
        refine g_cond rfl ?_ ?_
        · intro hbr
          first | (exfalso; simp at hbr; done) | (exfalso; simp at hbr; omega) | (exfalso; first | omega | (simp at hbr; done))
        intro hbr
        have hb86 := hbr
        refine g_skip ?_
        refine g_seq ?_
        refine g_region ?_
        refine l_move rfl rfl ?_
        refine l_assign rfl rfl ?_
        refine l_nil ?_
        refine g_seq ?_
        refine g_region ?_
        refine l_move rfl rfl ?_
        refine l_take (Own 33 1 (.slice (some ⟨g, 0, none⟩) n c) n (ints .u32 W2)) ?_
        refine l_take (Blk b (.cells [Value.slice (some ⟨g, 0, none⟩) n c].toArray 76 (0, 0))) ?_
        refine l_call rfl Try.call21 rfl (words_ok _ _ b g n c W2 hWl2 hc (by omega)) ?_; rintro _ _ ⟨ga, ca, rfl, hca, rfl⟩
        refine l_move rfl rfl ?_
        refine l_call rfl Try.call15 rfl (same_words _ _ (some ⟨ga, 0, none⟩) (some ⟨g2, 0, none⟩) n ca c2 W2 (IR.own hWl2 (by first | exact mem_getO 0 rfl | exact mem_getO 1 rfl | exact mem_getO 2 rfl | exact mem_getO 3 rfl | exact mem_getO 4 rfl | exact mem_getO 5 rfl | exact mem_getO 6 rfl | exact mem_getO 7 rfl | exact mem_getO 8 rfl | exact mem_getO 9 rfl | exact mem_getO 10 rfl | exact mem_getO 11 rfl | exact mem_getO 12 rfl | exact mem_getO 13 rfl | exact mem_getO 14 rfl | exact mem_getO 15 rfl) (.inr ⟨_, rfl⟩)) (IR.own hWl2 (by first | exact mem_getO 0 rfl | exact mem_getO 1 rfl | exact mem_getO 2 rfl | exact mem_getO 3 rfl | exact mem_getO 4 rfl | exact mem_getO 5 rfl | exact mem_getO 6 rfl | exact mem_getO 7 rfl | exact mem_getO 8 rfl | exact mem_getO 9 rfl | exact mem_getO 10 rfl | exact mem_getO 11 rfl | exact mem_getO 12 rfl | exact mem_getO 13 rfl | exact mem_getO 14 rfl | exact mem_getO 15 rfl) (.inr ⟨_, rfl⟩)) hWU2 (by omega)) ?_; rintro _ _ ⟨rfl, rfl⟩
        refine l_not rfl rfl ?_
        refine l_nil ?_
        first | refine g_cond_f rfl ?_ | refine g_cond_f (congrArg (fun b => some (Value.bool b)) (decide_eq_false hbr)) ?_
        refine g_skip ?_
        refine g_inBlock ?_
        refine g_region ?_
        refine l_move rfl rfl ?_
        first | refine l_add rfl rfl rfl (w_i64 (by omega) (by omega)) ?_ | refine l_addw rfl rfl rfl ?_
        refine l_assign rfl rfl ?_
        refine l_nil ?_
        exact g_againi (ih (i + 1, g2, c2, W2) ⟨by simp only; omega, by simp only; omega, hc2, hWl2, hWU2⟩ (by simp only; omega)) (.cons rfl (.cons rfl (.cons rfl (.cons rfl (.nil)))))
      intro hbr
      have hbr := of_decide_eq_false hbr
      refine l_guard_no rfl rfl rfl ?_
      refine l_guard_no rfl rfl rfl ?_
      refine l_guard_no rfl rfl rfl ?_
      refine l_pick_f rfl rfl rfl ?_
      refine l_move rfl rfl ?_
      refine l_guard_no rfl rfl rfl ?_
      refine l_guard_no rfl rfl rfl ?_
      refine l_guard_no rfl rfl rfl ?_
      refine l_pick_f rfl rfl rfl ?_
      refine l_assign rfl rfl ?_
      refine l_nil ?_
      refine g_seq ?_
      refine g_seq ?_
      refine g_region ?_
      refine l_fieldAddr rfl fa_54_0 rfl ?_
      first | refine l_ld rfl Try.isAgg3 rfl rfl ?_ | refine l_ldw rfl Try.isAgg3 rfl (by omega) ?_
      refine l_eql rfl rfl rfl ?_
      refine l_move rfl rfl ?_
      refine l_split 57 rfl ?_ ?_
      · intro hbr
        have hbr := of_decide_eq_true hbr
        refine l_guard_yes rfl rfl ?_
        refine l_move rfl rfl ?_
        refine l_pick_t rfl rfl rfl ?_
        refine l_move rfl rfl ?_
        refine l_guard_no rfl rfl rfl ?_
        refine l_guard_no rfl rfl rfl ?_
        refine l_guard_no rfl rfl rfl ?_
        refine l_guard_no rfl rfl rfl ?_
        refine l_pick_f rfl rfl rfl ?_
        refine l_move rfl rfl ?_
        refine l_guard_no rfl rfl rfl ?_
        refine l_guard_no rfl rfl rfl ?_
        refine l_guard_no rfl rfl rfl ?_
        refine l_guard_no rfl rfl rfl ?_
        refine l_guard_no rfl rfl rfl ?_
        refine l_guard_no rfl rfl rfl ?_
        refine l_guard_no rfl rfl rfl ?_
        refine l_guard_no rfl rfl rfl ?_
        refine l_guard_no rfl rfl rfl ?_
        refine l_guard_no rfl rfl rfl ?_
        refine l_pick_f rfl rfl rfl ?_
        refine l_nil ?_
        first | refine g_cond_f rfl ?_ | refine g_cond_f (congrArg (fun b => some (Value.bool b)) (decide_eq_false hbr)) ?_
        refine g_skip ?_
        refine g_seq ?_
        refine g_region ?_
        refine l_move rfl rfl ?_
        refine l_move rfl rfl ?_
        refine l_lds rfl Try.isAgg54 Try.sizeOf54 rfl rfl ?_
        refine l_take (Own 33 1 (.slice (some ⟨gd, 0, none⟩) n cd) n (ints .u32 W)) ?_
        refine l_take (Own 33 1 (.slice (some ⟨g, 0, none⟩) n c) n (ints .u32 W)) ?_
        refine l_take (Blk b (.cells [Value.slice (some ⟨g, 0, none⟩) n c].toArray 76 (0, 0))) ?_
        refine l_call rfl Try.call20 rfl (step_ok _ _ b g n c W hWl hc (by omega) hWU gd cd hcd kd at_ wd dp o1.1 o1.2 ap np cp P o5.ex o6 o7 am nm cm M o4.1.ex o4.2.1 o4.2.2) ?_; rintro _ _ ⟨g2, c2, W2, rfl, hc2, hWl2, hWU2, rfl⟩
        refine l_move rfl rfl ?_
        refine l_extract rfl rfl rfl ?_
        refine l_extract rfl rfl rfl ?_
        refine l_assign rfl rfl ?_
        refine l_assign rfl rfl ?_
        refine l_nil ?_
        refine g_seq ?_
        refine g_seq ?_
        refine g_region ?_
        refine l_move rfl rfl ?_
        refine l_not rfl rfl ?_
        refine l_nil ?_
        refine g_cond rfl ?_ ?_
        · intro hbr
          first | (exfalso; simp at hbr; done) | (exfalso; simp at hbr; omega) | (exfalso; first | omega | (simp at hbr; done))
        intro hbr
        have hb86 := hbr
        refine g_skip ?_
        refine g_seq ?_
        refine g_region ?_
        refine l_move rfl rfl ?_
        refine l_assign rfl rfl ?_
        refine l_nil ?_
        refine g_seq ?_
        refine g_region ?_
        refine l_move rfl rfl ?_
        refine l_take (Own 33 1 (.slice (some ⟨g, 0, none⟩) n c) n (ints .u32 W2)) ?_
        refine l_take (Blk b (.cells [Value.slice (some ⟨g, 0, none⟩) n c].toArray 76 (0, 0))) ?_
        refine l_call rfl Try.call21 rfl (words_ok _ _ b g n c W2 hWl2 hc (by omega)) ?_; rintro _ _ ⟨ga, ca, rfl, hca, rfl⟩
        refine l_move rfl rfl ?_
        refine l_call rfl Try.call15 rfl (same_words _ _ (some ⟨ga, 0, none⟩) (some ⟨g2, 0, none⟩) n ca c2 W2 (IR.own hWl2 (by first | exact mem_getO 0 rfl | exact mem_getO 1 rfl | exact mem_getO 2 rfl | exact mem_getO 3 rfl | exact mem_getO 4 rfl | exact mem_getO 5 rfl | exact mem_getO 6 rfl | exact mem_getO 7 rfl | exact mem_getO 8 rfl | exact mem_getO 9 rfl | exact mem_getO 10 rfl | exact mem_getO 11 rfl | exact mem_getO 12 rfl | exact mem_getO 13 rfl | exact mem_getO 14 rfl | exact mem_getO 15 rfl) (.inr ⟨_, rfl⟩)) (IR.own hWl2 (by first | exact mem_getO 0 rfl | exact mem_getO 1 rfl | exact mem_getO 2 rfl | exact mem_getO 3 rfl | exact mem_getO 4 rfl | exact mem_getO 5 rfl | exact mem_getO 6 rfl | exact mem_getO 7 rfl | exact mem_getO 8 rfl | exact mem_getO 9 rfl | exact mem_getO 10 rfl | exact mem_getO 11 rfl | exact mem_getO 12 rfl | exact mem_getO 13 rfl | exact mem_getO 14 rfl | exact mem_getO 15 rfl) (.inr ⟨_, rfl⟩)) hWU2 (by omega)) ?_; rintro _ _ ⟨rfl, rfl⟩
        refine l_not rfl rfl ?_
        refine l_nil ?_
        first | refine g_cond_f rfl ?_ | refine g_cond_f (congrArg (fun b => some (Value.bool b)) (decide_eq_false hbr)) ?_
        refine g_skip ?_
        refine g_inBlock ?_
        refine g_region ?_
        refine l_move rfl rfl ?_
        first | refine l_add rfl rfl rfl (w_i64 (by omega) (by omega)) ?_ | refine l_addw rfl rfl rfl ?_
        refine l_assign rfl rfl ?_
        refine l_nil ?_
        exact g_againi (ih (i + 1, g2, c2, W2) ⟨by simp only; omega, by simp only; omega, hc2, hWl2, hWU2⟩ (by simp only; omega)) (.cons rfl (.cons rfl (.cons rfl (.cons rfl (.nil)))))
      intro hbr
      have hbr := of_decide_eq_false hbr
      refine l_guard_no rfl rfl rfl ?_
      refine l_pick_f rfl rfl rfl ?_
      refine l_move rfl rfl ?_
      refine l_guard_no rfl rfl rfl ?_
      refine l_guard_no rfl rfl rfl ?_
      refine l_guard_no rfl rfl rfl ?_
      refine l_guard_no rfl rfl rfl ?_
      refine l_pick_f rfl rfl rfl ?_
      refine l_move rfl rfl ?_
      refine l_guard_no rfl rfl rfl ?_
      refine l_guard_no rfl rfl rfl ?_
      refine l_guard_no rfl rfl rfl ?_
      refine l_guard_no rfl rfl rfl ?_
      refine l_guard_no rfl rfl rfl ?_
      refine l_guard_no rfl rfl rfl ?_
      refine l_guard_no rfl rfl rfl ?_
      refine l_guard_no rfl rfl rfl ?_
      refine l_guard_no rfl rfl rfl ?_
      refine l_guard_no rfl rfl rfl ?_
      refine l_pick_f rfl rfl rfl ?_
      refine l_nil ?_
      first | refine g_cond_f rfl ?_ | refine g_cond_f (congrArg (fun b => some (Value.bool b)) (decide_eq_false hbr)) ?_
      refine g_skip ?_
      refine g_seq ?_
      refine g_region ?_
      refine l_move rfl rfl ?_
      refine l_move rfl rfl ?_
      refine l_lds rfl Try.isAgg54 Try.sizeOf54 rfl rfl ?_
      refine l_take (Own 33 1 (.slice (some ⟨gd, 0, none⟩) n cd) n (ints .u32 W)) ?_
      refine l_take (Own 33 1 (.slice (some ⟨g, 0, none⟩) n c) n (ints .u32 W)) ?_
      refine l_take (Blk b (.cells [Value.slice (some ⟨g, 0, none⟩) n c].toArray 76 (0, 0))) ?_
      refine l_call rfl Try.call20 rfl (step_ok _ _ b g n c W hWl hc (by omega) hWU gd cd hcd kd at_ wd dp o1.1 o1.2 ap np cp P o5.ex o6 o7 am nm cm M o4.1.ex o4.2.1 o4.2.2) ?_; rintro _ _ ⟨g2, c2, W2, rfl, hc2, hWl2, hWU2, rfl⟩
      refine l_move rfl rfl ?_
      refine l_extract rfl rfl rfl ?_
      refine l_extract rfl rfl rfl ?_
      refine l_assign rfl rfl ?_
      refine l_assign rfl rfl ?_
      refine l_nil ?_
      refine g_seq ?_
      refine g_seq ?_
      refine g_region ?_
      refine l_move rfl rfl ?_
      refine l_not rfl rfl ?_
      refine l_nil ?_
      refine g_cond rfl ?_ ?_
      · intro hbr
        first | (exfalso; simp at hbr; done) | (exfalso; simp at hbr; omega) | (exfalso; first | omega | (simp at hbr; done))
      intro hbr
      have hb86 := hbr
      refine g_skip ?_
      refine g_seq ?_
      refine g_region ?_
      refine l_move rfl rfl ?_
      refine l_assign rfl rfl ?_
      refine l_nil ?_
      refine g_seq ?_
      refine g_region ?_
      refine l_move rfl rfl ?_
      refine l_take (Own 33 1 (.slice (some ⟨g, 0, none⟩) n c) n (ints .u32 W2)) ?_
      refine l_take (Blk b (.cells [Value.slice (some ⟨g, 0, none⟩) n c].toArray 76 (0, 0))) ?_
      refine l_call rfl Try.call21 rfl (words_ok _ _ b g n c W2 hWl2 hc (by omega)) ?_; rintro _ _ ⟨ga, ca, rfl, hca, rfl⟩
      refine l_move rfl rfl ?_
      refine l_call rfl Try.call15 rfl (same_words _ _ (some ⟨ga, 0, none⟩) (some ⟨g2, 0, none⟩) n ca c2 W2 (IR.own hWl2 (by first | exact mem_getO 0 rfl | exact mem_getO 1 rfl | exact mem_getO 2 rfl | exact mem_getO 3 rfl | exact mem_getO 4 rfl | exact mem_getO 5 rfl | exact mem_getO 6 rfl | exact mem_getO 7 rfl | exact mem_getO 8 rfl | exact mem_getO 9 rfl | exact mem_getO 10 rfl | exact mem_getO 11 rfl | exact mem_getO 12 rfl | exact mem_getO 13 rfl | exact mem_getO 14 rfl | exact mem_getO 15 rfl) (.inr ⟨_, rfl⟩)) (IR.own hWl2 (by first | exact mem_getO 0 rfl | exact mem_getO 1 rfl | exact mem_getO 2 rfl | exact mem_getO 3 rfl | exact mem_getO 4 rfl | exact mem_getO 5 rfl | exact mem_getO 6 rfl | exact mem_getO 7 rfl | exact mem_getO 8 rfl | exact mem_getO 9 rfl | exact mem_getO 10 rfl | exact mem_getO 11 rfl | exact mem_getO 12 rfl | exact mem_getO 13 rfl | exact mem_getO 14 rfl | exact mem_getO 15 rfl) (.inr ⟨_, rfl⟩)) hWU2 (by omega)) ?_; rintro _ _ ⟨rfl, rfl⟩
      refine l_not rfl rfl ?_
      refine l_nil ?_
      first | refine g_cond_f rfl ?_ | refine g_cond_f (congrArg (fun b => some (Value.bool b)) (decide_eq_false hbr)) ?_
      refine g_skip ?_
      refine g_inBlock ?_
      refine g_region ?_
      refine l_move rfl rfl ?_
      first | refine l_add rfl rfl rfl (w_i64 (by omega) (by omega)) ?_ | refine l_addw rfl rfl rfl ?_
      refine l_assign rfl rfl ?_
      refine l_nil ?_
      exact g_againi (ih (i + 1, g2, c2, W2) ⟨by simp only; omega, by simp only; omega, hc2, hWl2, hWU2⟩ (by simp only; omega)) (.cons rfl (.cons rfl (.cons rfl (.cons rfl (.nil)))))
    intro hbr
    have hbr := of_decide_eq_false hbr
    refine l_guard_no rfl rfl rfl ?_
    refine l_guard_no rfl rfl rfl ?_
    refine l_guard_no rfl rfl rfl ?_
    refine l_pick_f rfl rfl rfl ?_
    refine l_move rfl rfl ?_
    refine l_guard_no rfl rfl rfl ?_
    refine l_guard_no rfl rfl rfl ?_
    refine l_guard_no rfl rfl rfl ?_
    refine l_pick_f rfl rfl rfl ?_
    refine l_move rfl rfl ?_
    refine l_guard_no rfl rfl rfl ?_
    refine l_guard_no rfl rfl rfl ?_
    refine l_guard_no rfl rfl rfl ?_
    refine l_pick_f rfl rfl rfl ?_
    refine l_assign rfl rfl ?_
    refine l_nil ?_
    refine g_seq ?_
    refine g_seq ?_
    refine g_region ?_
    refine l_fieldAddr rfl fa_54_0 rfl ?_
    first | refine l_ld rfl Try.isAgg3 rfl rfl ?_ | refine l_ldw rfl Try.isAgg3 rfl (by omega) ?_
    refine l_eql rfl rfl rfl ?_
    refine l_move rfl rfl ?_
    refine l_split 57 rfl ?_ ?_
    · intro hbr
      have hbr := of_decide_eq_true hbr
      refine l_guard_yes rfl rfl ?_
      refine l_move rfl rfl ?_
      refine l_pick_t rfl rfl rfl ?_
      refine l_move rfl rfl ?_
      refine l_guard_no rfl rfl rfl ?_
      refine l_guard_no rfl rfl rfl ?_
      refine l_guard_no rfl rfl rfl ?_
      refine l_guard_no rfl rfl rfl ?_
      refine l_pick_f rfl rfl rfl ?_
      refine l_move rfl rfl ?_
      refine l_guard_no rfl rfl rfl ?_
      refine l_guard_no rfl rfl rfl ?_
      refine l_guard_no rfl rfl rfl ?_
      refine l_guard_no rfl rfl rfl ?_
      refine l_guard_no rfl rfl rfl ?_
      refine l_guard_no rfl rfl rfl ?_
      refine l_guard_no rfl rfl rfl ?_
      refine l_guard_no rfl rfl rfl ?_
      refine l_guard_no rfl rfl rfl ?_
      refine l_guard_no rfl rfl rfl ?_
      refine l_pick_f rfl rfl rfl ?_
      refine l_nil ?_
      first | refine g_cond_f rfl ?_ | refine g_cond_f (congrArg (fun b => some (Value.bool b)) (decide_eq_false hbr)) ?_
      refine g_skip ?_
      refine g_seq ?_
      refine g_region ?_
      refine l_move rfl rfl ?_
      refine l_move rfl rfl ?_
      refine l_lds rfl Try.isAgg54 Try.sizeOf54 rfl rfl ?_
      refine l_take (Own 33 1 (.slice (some ⟨gd, 0, none⟩) n cd) n (ints .u32 W)) ?_
      refine l_take (Own 33 1 (.slice (some ⟨g, 0, none⟩) n c) n (ints .u32 W)) ?_
      refine l_take (Blk b (.cells [Value.slice (some ⟨g, 0, none⟩) n c].toArray 76 (0, 0))) ?_
      refine l_call rfl Try.call20 rfl (step_ok _ _ b g n c W hWl hc (by omega) hWU gd cd hcd kd at_ wd dp o1.1 o1.2 ap np cp P o5.ex o6 o7 am nm cm M o4.1.ex o4.2.1 o4.2.2) ?_; rintro _ _ ⟨g2, c2, W2, rfl, hc2, hWl2, hWU2, rfl⟩
      refine l_move rfl rfl ?_
      refine l_extract rfl rfl rfl ?_
      refine l_extract rfl rfl rfl ?_
      refine l_assign rfl rfl ?_
      refine l_assign rfl rfl ?_
      refine l_nil ?_
      refine g_seq ?_
      refine g_seq ?_
      refine g_region ?_
      refine l_move rfl rfl ?_
      refine l_not rfl rfl ?_
      refine l_nil ?_
      refine g_cond rfl ?_ ?_
      · intro hbr
        first | (exfalso; simp at hbr; done) | (exfalso; simp at hbr; omega) | (exfalso; first | omega | (simp at hbr; done))
      intro hbr
      have hb86 := hbr
      refine g_skip ?_
      refine g_seq ?_
      refine g_region ?_
      refine l_move rfl rfl ?_
      refine l_assign rfl rfl ?_
      refine l_nil ?_
      refine g_seq ?_
      refine g_region ?_
      refine l_move rfl rfl ?_
      refine l_take (Own 33 1 (.slice (some ⟨g, 0, none⟩) n c) n (ints .u32 W2)) ?_
      refine l_take (Blk b (.cells [Value.slice (some ⟨g, 0, none⟩) n c].toArray 76 (0, 0))) ?_
      refine l_call rfl Try.call21 rfl (words_ok _ _ b g n c W2 hWl2 hc (by omega)) ?_; rintro _ _ ⟨ga, ca, rfl, hca, rfl⟩
      refine l_move rfl rfl ?_
      refine l_call rfl Try.call15 rfl (same_words _ _ (some ⟨ga, 0, none⟩) (some ⟨g2, 0, none⟩) n ca c2 W2 (IR.own hWl2 (by first | exact mem_getO 0 rfl | exact mem_getO 1 rfl | exact mem_getO 2 rfl | exact mem_getO 3 rfl | exact mem_getO 4 rfl | exact mem_getO 5 rfl | exact mem_getO 6 rfl | exact mem_getO 7 rfl | exact mem_getO 8 rfl | exact mem_getO 9 rfl | exact mem_getO 10 rfl | exact mem_getO 11 rfl | exact mem_getO 12 rfl | exact mem_getO 13 rfl | exact mem_getO 14 rfl | exact mem_getO 15 rfl) (.inr ⟨_, rfl⟩)) (IR.own hWl2 (by first | exact mem_getO 0 rfl | exact mem_getO 1 rfl | exact mem_getO 2 rfl | exact mem_getO 3 rfl | exact mem_getO 4 rfl | exact mem_getO 5 rfl | exact mem_getO 6 rfl | exact mem_getO 7 rfl | exact mem_getO 8 rfl | exact mem_getO 9 rfl | exact mem_getO 10 rfl | exact mem_getO 11 rfl | exact mem_getO 12 rfl | exact mem_getO 13 rfl | exact mem_getO 14 rfl | exact mem_getO 15 rfl) (.inr ⟨_, rfl⟩)) hWU2 (by omega)) ?_; rintro _ _ ⟨rfl, rfl⟩
      refine l_not rfl rfl ?_
      refine l_nil ?_
      first | refine g_cond_f rfl ?_ | refine g_cond_f (congrArg (fun b => some (Value.bool b)) (decide_eq_false hbr)) ?_
      refine g_skip ?_
      refine g_inBlock ?_
      refine g_region ?_
      refine l_move rfl rfl ?_
      first | refine l_add rfl rfl rfl (w_i64 (by omega) (by omega)) ?_ | refine l_addw rfl rfl rfl ?_
      refine l_assign rfl rfl ?_
      refine l_nil ?_
      exact g_againi (ih (i + 1, g2, c2, W2) ⟨by simp only; omega, by simp only; omega, hc2, hWl2, hWU2⟩ (by simp only; omega)) (.cons rfl (.cons rfl (.cons rfl (.cons rfl (.nil)))))
    intro hbr
    have hbr := of_decide_eq_false hbr
    refine l_guard_no rfl rfl rfl ?_
    refine l_pick_f rfl rfl rfl ?_
    refine l_move rfl rfl ?_
    refine l_guard_no rfl rfl rfl ?_
    refine l_guard_no rfl rfl rfl ?_
    refine l_guard_no rfl rfl rfl ?_
    refine l_guard_no rfl rfl rfl ?_
    refine l_pick_f rfl rfl rfl ?_
    refine l_move rfl rfl ?_
    refine l_guard_no rfl rfl rfl ?_
    refine l_guard_no rfl rfl rfl ?_
    refine l_guard_no rfl rfl rfl ?_
    refine l_guard_no rfl rfl rfl ?_
    refine l_guard_no rfl rfl rfl ?_
    refine l_guard_no rfl rfl rfl ?_
    refine l_guard_no rfl rfl rfl ?_
    refine l_guard_no rfl rfl rfl ?_
    refine l_guard_no rfl rfl rfl ?_
    refine l_guard_no rfl rfl rfl ?_
    refine l_pick_f rfl rfl rfl ?_
    refine l_nil ?_
    first | refine g_cond_f rfl ?_ | refine g_cond_f (congrArg (fun b => some (Value.bool b)) (decide_eq_false hbr)) ?_
    refine g_skip ?_
    refine g_seq ?_
    refine g_region ?_
    refine l_move rfl rfl ?_
    refine l_move rfl rfl ?_
    refine l_lds rfl Try.isAgg54 Try.sizeOf54 rfl rfl ?_
    refine l_take (Own 33 1 (.slice (some ⟨gd, 0, none⟩) n cd) n (ints .u32 W)) ?_
    refine l_take (Own 33 1 (.slice (some ⟨g, 0, none⟩) n c) n (ints .u32 W)) ?_
    refine l_take (Blk b (.cells [Value.slice (some ⟨g, 0, none⟩) n c].toArray 76 (0, 0))) ?_
    refine l_call rfl Try.call20 rfl (step_ok _ _ b g n c W hWl hc (by omega) hWU gd cd hcd kd at_ wd dp o1.1 o1.2 ap np cp P o5.ex o6 o7 am nm cm M o4.1.ex o4.2.1 o4.2.2) ?_; rintro _ _ ⟨g2, c2, W2, rfl, hc2, hWl2, hWU2, rfl⟩
    refine l_move rfl rfl ?_
    refine l_extract rfl rfl rfl ?_
    refine l_extract rfl rfl rfl ?_
    refine l_assign rfl rfl ?_
    refine l_assign rfl rfl ?_
    refine l_nil ?_
    refine g_seq ?_
    refine g_seq ?_
    refine g_region ?_
    refine l_move rfl rfl ?_
    refine l_not rfl rfl ?_
    refine l_nil ?_
    refine g_cond rfl ?_ ?_
    · intro hbr
      first | (exfalso; simp at hbr; done) | (exfalso; simp at hbr; omega) | (exfalso; first | omega | (simp at hbr; done))
    intro hbr
    have hb86 := hbr
    refine g_skip ?_
    refine g_seq ?_
    refine g_region ?_
    refine l_move rfl rfl ?_
    refine l_assign rfl rfl ?_
    refine l_nil ?_
    refine g_seq ?_
    refine g_region ?_
    refine l_move rfl rfl ?_
    refine l_take (Own 33 1 (.slice (some ⟨g, 0, none⟩) n c) n (ints .u32 W2)) ?_
    refine l_take (Blk b (.cells [Value.slice (some ⟨g, 0, none⟩) n c].toArray 76 (0, 0))) ?_
    refine l_call rfl Try.call21 rfl (words_ok _ _ b g n c W2 hWl2 hc (by omega)) ?_; rintro _ _ ⟨ga, ca, rfl, hca, rfl⟩
    refine l_move rfl rfl ?_
    refine l_call rfl Try.call15 rfl (same_words _ _ (some ⟨ga, 0, none⟩) (some ⟨g2, 0, none⟩) n ca c2 W2 (IR.own hWl2 (by first | exact mem_getO 0 rfl | exact mem_getO 1 rfl | exact mem_getO 2 rfl | exact mem_getO 3 rfl | exact mem_getO 4 rfl | exact mem_getO 5 rfl | exact mem_getO 6 rfl | exact mem_getO 7 rfl | exact mem_getO 8 rfl | exact mem_getO 9 rfl | exact mem_getO 10 rfl | exact mem_getO 11 rfl | exact mem_getO 12 rfl | exact mem_getO 13 rfl | exact mem_getO 14 rfl | exact mem_getO 15 rfl) (.inr ⟨_, rfl⟩)) (IR.own hWl2 (by first | exact mem_getO 0 rfl | exact mem_getO 1 rfl | exact mem_getO 2 rfl | exact mem_getO 3 rfl | exact mem_getO 4 rfl | exact mem_getO 5 rfl | exact mem_getO 6 rfl | exact mem_getO 7 rfl | exact mem_getO 8 rfl | exact mem_getO 9 rfl | exact mem_getO 10 rfl | exact mem_getO 11 rfl | exact mem_getO 12 rfl | exact mem_getO 13 rfl | exact mem_getO 14 rfl | exact mem_getO 15 rfl) (.inr ⟨_, rfl⟩)) hWU2 (by omega)) ?_; rintro _ _ ⟨rfl, rfl⟩
    refine l_not rfl rfl ?_
    refine l_nil ?_
    first | refine g_cond_f rfl ?_ | refine g_cond_f (congrArg (fun b => some (Value.bool b)) (decide_eq_false hbr)) ?_
    refine g_skip ?_
    refine g_inBlock ?_
    refine g_region ?_
    refine l_move rfl rfl ?_
    first | refine l_add rfl rfl rfl (w_i64 (by omega) (by omega)) ?_ | refine l_addw rfl rfl rfl ?_
    refine l_assign rfl rfl ?_
    refine l_nil ?_
    exact g_againi (ih (i + 1, g2, c2, W2) ⟨by simp only; omega, by simp only; omega, hc2, hWl2, hWU2⟩ (by simp only; omega)) (.cons rfl (.cons rfl (.cons rfl (.cons rfl (.nil)))))
  intro hbr
  have hbr := of_decide_eq_false hbr
  refine g_exit rfl ?_
  refine g_seq ?_
  refine g_region ?_
  refine l_assign rfl rfl ?_
  refine l_nil ?_
  refine g_ret Try.func5 rfl (.tmp rfl .nil) ?_
  exact Gives.mki ⟨rfl, rfl⟩
theorem ir_old {W : World} {kd : IntKind} {a : Option Addr} {n c : Nat} {X : List Int} (hl : X.length = n) (hx : (n = 0 ∧ (a = none → c = 0)) ∨ ∃ b o, a = some ⟨b, o, none⟩ ∧ ∀ (j : Nat) u, (ints kd X)[j]? = some u → W.cell? ⟨b, o + j, none⟩ = some u) : IR W [Old W] kd a n X := by
  refine ⟨hl, ?_⟩
  rcases hx with ⟨h, _⟩ | ⟨b, o, h, hr⟩
  · exact .inl h
  · exact .inr ⟨b, o, h, RowAt.old (by simp) hr⟩
theorem W32s.of {l : List Int} (h : ∀ x ∈ l, 0 ≤ x ∧ x ≤ 4294967295) : W32s l := by
  intro i
  rcases Nat.lt_or_ge i l.length with h2 | h2
  · have e : l.getD i 0 = l[i] := by simp [h2]
    rw [e]; exact h _ (List.getElem_mem _)
  · rw [getD_over h2]; decide
theorem viz_op {w : World} {r : List Value} (h : Viz Try.prog w 54 r) : ∃ o : OpV, r = opV o ∧ OpOk w [Old w] o := by
  obtain ⟨hl, hf⟩ := viz_struct Try.underlying54 h
  have hc : Try.prog.cellsOf 54 = 6 := by kernel_rfl
  have c0 : Try.prog.cellsOf 3 = 1 := by kernel_rfl
  have c1 : Try.prog.cellsOf 52 = 1 := by kernel_rfl
  have c2 : Try.prog.cellsOf 29 = 1 := by kernel_rfl
  match r, hl.trans hc with
  | [z0, z1, z2, z3, z4, z5], _ =>
    obtain ⟨kd, e0, _⟩ := vis_int Try.underlying3 (hf 0 _ rfl).vis
    obtain ⟨at_, e1, w1⟩ := vis_int Try.underlying3 (hf 1 _ rfl).vis
    obtain ⟨wd, e2, w2⟩ := vis_int Try.underlying3 (hf 2 _ rfl).vis
    obtain ⟨dp, e3, w3⟩ := vis_int Try.underlying3 (hf 3 _ rfl).vis
    obtain ⟨ap, np, cp, P, e4, p1, p2, p3, p4, p5, p6⟩ := viz_ints (by_ := 8) Try.underlying52 Try.underlying3 (by kernel_rfl) (by kernel_rfl) (hf 4 _ rfl)
    obtain ⟨am, nm, cm, M, e5, m1, m2, m3, m4, m5, m6⟩ := viz_ints (by_ := 4) Try.underlying29 Try.underlying33 (by kernel_rfl) (by kernel_rfl) (hf 5 _ rfl)
    simp [c0, c1, c2] at e0 e1 e2 e3 e4 e5
    subst e0 e1 e2 e3 e4 e5
    refine ⟨⟨kd, at_, wd, dp, ap, np, cp, P, am, nm, cm, M⟩, rfl, wf_i64 w1, wf_i64 w2, wf_i64 w3, ⟨ir_old m4 m6, W32s.of fun x hx => wf_u32 (m5 x hx), by simp only; omega⟩, ir_old p4 p6, fun i => ?_, by simp only; omega, p1⟩
    simp only
    rcases Nat.lt_or_ge i P.length with h | h
    · have e : P.getD i 0 = P[i] := by simp [h]
      rw [e]; exact wf_i64 (p5 _ (List.getElem_mem _))
    · rw [getD_over h]; decide
def CaseOk (w : World) (fm : Int) (wa : Option Addr) (wn : Nat) (Wd : List Int) (oa : Option Addr) (on : Nat) (L : List OpV) : Prop := (-9223372036854775808 ≤ fm ∧ fm ≤ 9223372036854775807) ∧ IR w [Old w] .u32 wa wn Wd ∧ W32s Wd ∧ wn ≤ 9223372036854775807 ∧ on ≤ 9223372036854775807 ∧ L.length = on ∧ (on = 0 ∨ ∃ b o, oa = some ⟨b, o, none⟩ ∧ RowAt w [Old w] b o (L.map opV).flatten) ∧ ∀ o ∈ L, OpOk w [Old w] o
theorem viz_case {w : World} {r : List Value} (h : Viz Try.prog w 48 r) : ∃ fr fm wa wn wc Wd oa on oc L, r = [Value.int .i64 fr, .int .i64 fm, .slice wa wn wc, .slice oa on oc] ∧ CaseOk w fm wa wn Wd oa on L := by
  obtain ⟨hl, hf⟩ := viz_struct Try.underlying48 h
  have hc : Try.prog.cellsOf 48 = 4 := by kernel_rfl
  have c0 : Try.prog.cellsOf 3 = 1 := by kernel_rfl
  have c1 : Try.prog.cellsOf 29 = 1 := by kernel_rfl
  have c2 : Try.prog.cellsOf 46 = 1 := by kernel_rfl
  match r, hl.trans hc with
  | [z0, z1, z2, z3], _ =>
    obtain ⟨fr, e0, _⟩ := vis_int Try.underlying3 (hf 0 _ rfl).vis
    obtain ⟨fm, e1, w1⟩ := vis_int Try.underlying3 (hf 1 _ rfl).vis
    obtain ⟨wa, wn, wc, Wd, e2, m1, m2, m3, m4, m5, m6⟩ := viz_ints (by_ := 4) Try.underlying29 Try.underlying33 (by kernel_rfl) (by kernel_rfl) (hf 2 _ rfl)
    obtain ⟨oa, on, oc, rows, e3, o1, o2, o3, o4, o5, o6⟩ := viz_slice (sz := 6) (by_ := 80) Try.underlying46 (by kernel_rfl) (by kernel_rfl) (by decide) (hf 3 _ rfl)
    simp [c0, c1, c2] at e0 e1 e2 e3
    subst e0 e1 e2 e3
    obtain ⟨L, hL, hLok⟩ := rows_choose (f := opV) (R := OpOk w [Old w]) (rows := rows) (fun r hr => viz_op (o5 r hr).2)
    subst hL
    simp only [maxLen] at m2 o2
    refine ⟨fr, fm, wa, wn, wc, Wd, oa, on, oc, L, rfl, wf_i64 w1, ir_old m4 m6, W32s.of fun x hx => wf_u32 (m5 x hx), by omega, by omega, by simpa using o4, ?_, hLok⟩
    rcases o6 with ⟨h, _⟩ | ⟨b, o, h, hr⟩
    · exact .inl h
    · exact .inr ⟨b, o, h, RowAt.old (by simp) hr⟩

theorem plays_bad (w0 : World) (F : List Atom) (fr fm : Int) (wa : Option Addr) (wn wc : Nat) (oa : Option Addr) (on oc : Nat) (h : ¬ (1 ≤ fr ∧ fr ≤ 16 ∧ on ≤ 200)) :
    CallK Try.prog 5 [.agg [Value.int .i64 (fr : Int), .int .i64 fm, .slice wa wn wc, .slice oa on oc].toArray] w0 (F) (Gives w0 fun v F2 => v = .bool true ∧ F2 = F) := by
  refine c_enter Try.func5 rfl rfl rfl ?_
  refine g_seq ?_
  refine g_region ?_
  refine l_boxs rfl rfl ?_; intro b1
  refine l_assign rfl rfl ?_
  refine l_nil ?_
  refine g_seq ?_
  refine g_seq ?_
  refine g_region ?_
  refine l_lds rfl Try.isAgg48 Try.sizeOf48 rfl rfl ?_
  refine l_call rfl Try.call16 rfl (fit_bad _ _ _ _ _ _ _ _ _ _ h) ?_; rintro _ _ ⟨rfl, rfl⟩
  refine l_not rfl rfl ?_
  refine l_nil ?_
  first | refine g_cond_t rfl ?_ | refine g_cond_t (congrArg (fun b => some (Value.bool b)) (decide_eq_true hbr)) ?_
  refine g_seq ?_
  refine g_region ?_
  refine l_assign rfl rfl ?_
  refine l_nil ?_
  refine g_ret Try.func5 rfl (.tmp rfl .nil) ?_
  exact Gives.mki ⟨rfl, rfl⟩
theorem plays_all (W : World) (l : List Value) (hv : Viz Try.prog W 48 l) : CallK Try.prog 5 [.agg l.toArray] W [Old W] (Gives W fun v F2 => v = .bool true ∧ F2 = [Old W]) := by
  obtain ⟨fr, fm, wa, wn, wc, Wd, oa, on, oc, L, rfl, h1, h2, h3, h4, h5, h6, h7, h8⟩ := viz_case hv
  by_cases h : 1 ≤ fr ∧ fr ≤ 16 ∧ on ≤ 200
  · exact plays_ok W [Old W] fr fm h1.1 h1.2 wa wn wc Wd h2 h3 h4 oa on oc h5 L h6 h7 h8 h
  · exact plays_bad W [Old W] fr fm wa wn wc oa on oc h
end Go.Proofs.Ytecibldbnekgbaa.Fw
