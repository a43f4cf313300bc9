import Derived.Test.YtfccfjgnoeocnaaSpans
import Derived.Test.YtfccfjgnoeocnaaFwR
namespace Go.Proofs.Ytfccfjgnoeocnaa.Fw
open Go Go.Proofs
set_option linter.unusedVariables false
set_option linter.unusedSimpArgs false
set_option maxRecDepth 10000
theorem sq_40 (x0 : Int) (x1 : Int) (x2 : Int) (y0 : Int) (y1 : Int) (y2 : Int) (w : World) : (Op.equalIn 10000 40 (.agg #[.int .i64 x0, .int .i64 x1, .int .i64 x2]) (.agg #[.int .i64 y0, .int .i64 y1, .int .i64 y2])).run Try.prog w = .ok (decide (x0 = y0) && decide (x1 = y1) && decide (x2 = y2)) w := by
  rw [run_equalIn_struct w 9999 40 _ _ (by simp [Program.fieldsOf, Try.underlying40]) Try.stoodInHeld40]
  have e0 := fun w => run_equalIn_int (P := Try.prog) w 9998 3 .i64 .i64 x0 y0 Try.underlying3
  have e1 := fun w => run_equalIn_int (P := Try.prog) w 9998 3 .i64 .i64 x1 y1 Try.underlying3
  have e2 := fun w => run_equalIn_int (P := Try.prog) w 9998 3 .i64 .i64 x2 y2 Try.underlying3
  simp [Program.fieldsOf, Try.underlying40, Op.eqFields, part, Try.isAgg3, e0, e1, e2, Sem.run_bind, Sem.run_pure, Sem.run_ite]
  by_cases h0 : x0 = y0 <;> by_cases h1 : x1 = y1 <;> by_cases h2 : x2 = y2 <;> simp [*]
theorem sqn_40 (x0 : Int) (x1 : Int) (x2 : Int) (y0 : Int) (y1 : Int) (y2 : Int) (w : World) : (binOp .neq 40 (.agg #[.int .i64 x0, .int .i64 x1, .int .i64 x2]) (.agg #[.int .i64 y0, .int .i64 y1, .int .i64 y2])).run Try.prog w = .ok (.bool (!(decide (x0 = y0) && decide (x1 = y1) && decide (x2 = y2)))) w := by
  rw [run_neq_struct, sq_40]; rfl
theorem sq_78 (x0 : Int) (x1 : Int) (x2 : Int) (x3 : Int) (y0 : Int) (y1 : Int) (y2 : Int) (y3 : Int) (w : World) : (Op.equalIn 10000 78 (.agg #[.int .i64 x0, .int .i64 x1, .int .i64 x2, .int .i64 x3]) (.agg #[.int .i64 y0, .int .i64 y1, .int .i64 y2, .int .i64 y3])).run Try.prog w = .ok (decide (x0 = y0) && decide (x1 = y1) && decide (x2 = y2) && decide (x3 = y3)) w := by
  rw [run_equalIn_struct w 9999 78 _ _ (by simp [Program.fieldsOf, Try.underlying78]) Try.stoodInHeld78]
  have e0 := fun w => run_equalIn_int (P := Try.prog) w 9998 3 .i64 .i64 x0 y0 Try.underlying3
  have e1 := fun w => run_equalIn_int (P := Try.prog) w 9998 3 .i64 .i64 x1 y1 Try.underlying3
  have e2 := fun w => run_equalIn_int (P := Try.prog) w 9998 3 .i64 .i64 x2 y2 Try.underlying3
  have e3 := fun w => run_equalIn_int (P := Try.prog) w 9998 3 .i64 .i64 x3 y3 Try.underlying3
  simp [Program.fieldsOf, Try.underlying78, Op.eqFields, part, Try.isAgg3, e0, e1, e2, e3, Sem.run_bind, Sem.run_pure, Sem.run_ite]
  by_cases h0 : x0 = y0 <;> by_cases h1 : x1 = y1 <;> by_cases h2 : x2 = y2 <;> by_cases h3 : x3 = y3 <;> simp [*]
theorem sqn_78 (x0 : Int) (x1 : Int) (x2 : Int) (x3 : Int) (y0 : Int) (y1 : Int) (y2 : Int) (y3 : Int) (w : World) : (binOp .neq 78 (.agg #[.int .i64 x0, .int .i64 x1, .int .i64 x2, .int .i64 x3]) (.agg #[.int .i64 y0, .int .i64 y1, .int .i64 y2, .int .i64 y3])).run Try.prog w = .ok (.bool (!(decide (x0 = y0) && decide (x1 = y1) && decide (x2 = y2) && decide (x3 = y3)))) w := by
  rw [run_neq_struct, sq_78]; rfl
theorem sq_80 (x0 : Int) (x1 : Bool) (y0 : Int) (y1 : Bool) (w : World) : (Op.equalIn 10000 80 (.agg #[.int .i64 x0, .bool x1]) (.agg #[.int .i64 y0, .bool y1])).run Try.prog w = .ok (decide (x0 = y0) && decide (x1 = y1)) w := by
  rw [run_equalIn_struct w 9999 80 _ _ (by simp [Program.fieldsOf, Try.underlying80]) Try.stoodInHeld80]
  have e0 := fun w => run_equalIn_int (P := Try.prog) w 9998 3 .i64 .i64 x0 y0 Try.underlying3
  have e1 := fun w => run_equalIn_bool' (P := Try.prog) w 9998 4 x1 y1 Try.underlying4
  simp [Program.fieldsOf, Try.underlying80, Op.eqFields, part, Try.isAgg3, Try.isAgg4, e0, e1, Sem.run_bind, Sem.run_pure, Sem.run_ite]
  by_cases h0 : x0 = y0 <;> by_cases h1 : x1 = y1 <;> simp [*]
theorem sqn_80 (x0 : Int) (x1 : Bool) (y0 : Int) (y1 : Bool) (w : World) : (binOp .neq 80 (.agg #[.int .i64 x0, .bool x1]) (.agg #[.int .i64 y0, .bool y1])).run Try.prog w = .ok (.bool (!(decide (x0 = y0) && decide (x1 = y1)))) w := by
  rw [run_neq_struct, sq_80]; rfl
theorem sq_82 (x0 : Int) (x1 : Int) (x2 : Int) (y0 : Int) (y1 : Int) (y2 : Int) (w : World) : (Op.equalIn 10000 82 (.agg #[.int .i64 x0, .int .i64 x1, .int .i64 x2]) (.agg #[.int .i64 y0, .int .i64 y1, .int .i64 y2])).run Try.prog w = .ok (decide (x0 = y0) && decide (x1 = y1) && decide (x2 = y2)) w := by
  rw [run_equalIn_struct w 9999 82 _ _ (by simp [Program.fieldsOf, Try.underlying82]) Try.stoodInHeld82]
  have e0 := fun w => run_equalIn_int (P := Try.prog) w 9998 3 .i64 .i64 x0 y0 Try.underlying3
  have e1 := fun w => run_equalIn_int (P := Try.prog) w 9998 3 .i64 .i64 x1 y1 Try.underlying3
  have e2 := fun w => run_equalIn_int (P := Try.prog) w 9998 3 .i64 .i64 x2 y2 Try.underlying3
  simp [Program.fieldsOf, Try.underlying82, Op.eqFields, part, Try.isAgg3, e0, e1, e2, Sem.run_bind, Sem.run_pure, Sem.run_ite]
  by_cases h0 : x0 = y0 <;> by_cases h1 : x1 = y1 <;> by_cases h2 : x2 = y2 <;> simp [*]
theorem sqn_82 (x0 : Int) (x1 : Int) (x2 : Int) (y0 : Int) (y1 : Int) (y2 : Int) (w : World) : (binOp .neq 82 (.agg #[.int .i64 x0, .int .i64 x1, .int .i64 x2]) (.agg #[.int .i64 y0, .int .i64 y1, .int .i64 y2])).run Try.prog w = .ok (.bool (!(decide (x0 = y0) && decide (x1 = y1) && decide (x2 = y2)))) w := by
  rw [run_neq_struct, sq_82]; rfl
theorem fa_69_1 (a : Addr) (w : World) : (Instr.fieldAt 69 (.pointer (some a)) 1).run Try.prog w = .ok (.pointer (some (a.add 1))) w := by
  simp [Instr.fieldAt, Try.runUnderlying69, Instr.sureAddr, fieldPlace, Try.sizeOf3, Sem.run_bind, Sem.run_pure]
theorem fa_69_2 (a : Addr) (w : World) : (Instr.fieldAt 69 (.pointer (some a)) 2).run Try.prog w = .ok (.pointer (some (a.add 2))) w := by
  simp [Instr.fieldAt, Try.runUnderlying69, Instr.sureAddr, fieldPlace, Try.sizeOf3, Sem.run_bind, Sem.run_pure]
theorem fa_69_3 (a : Addr) (w : World) : (Instr.fieldAt 69 (.pointer (some a)) 3).run Try.prog w = .ok (.pointer (some (a.add 3))) w := by
  simp [Instr.fieldAt, Try.runUnderlying69, Instr.sureAddr, fieldPlace, Try.sizeOf3, Sem.run_bind, Sem.run_pure]
theorem fa_69_4 (a : Addr) (w : World) : (Instr.fieldAt 69 (.pointer (some a)) 4).run Try.prog w = .ok (.pointer (some (a.add 4))) w := by
  simp [Instr.fieldAt, Try.runUnderlying69, Instr.sureAddr, fieldPlace, Try.sizeOf3, Sem.run_bind, Sem.run_pure]
theorem fa_69_5 (a : Addr) (w : World) : (Instr.fieldAt 69 (.pointer (some a)) 5).run Try.prog w = .ok (.pointer (some (a.add 5))) w := by
  simp [Instr.fieldAt, Try.runUnderlying69, Instr.sureAddr, fieldPlace, Try.sizeOf3, Sem.run_bind, Sem.run_pure]
theorem fa_69_0 (a : Addr) (w : World) : (Instr.fieldAt 69 (.pointer (some a)) 0).run Try.prog w = .ok (.pointer (some (a.add 0))) w := by
  simp [Instr.fieldAt, Try.runUnderlying69, Instr.sureAddr, fieldPlace, Try.sizeOf9, Sem.run_bind, Sem.run_pure]
theorem fa_69_6 (a : Addr) (w : World) : (Instr.fieldAt 69 (.pointer (some a)) 6).run Try.prog w = .ok (.pointer (some (a.add 6))) w := by
  simp [Instr.fieldAt, Try.runUnderlying69, Instr.sureAddr, fieldPlace, Try.sizeOf66, Sem.run_bind, Sem.run_pure]
theorem fa_69_7 (a : Addr) (w : World) : (Instr.fieldAt 69 (.pointer (some a)) 7).run Try.prog w = .ok (.pointer (some (a.add 7))) w := by
  simp [Instr.fieldAt, Try.runUnderlying69, Instr.sureAddr, fieldPlace, Try.sizeOf67, Sem.run_bind, Sem.run_pure]
theorem fa_27_0 (a : Addr) (w : World) : (Instr.fieldAt 27 (.pointer (some a)) 0).run Try.prog w = .ok (.pointer (some (a.add 0))) w := by
  simp [Instr.fieldAt, Try.runUnderlying27, Instr.sureAddr, fieldPlace, Try.sizeOf3, Sem.run_bind, Sem.run_pure]
theorem fa_27_1 (a : Addr) (w : World) : (Instr.fieldAt 27 (.pointer (some a)) 1).run Try.prog w = .ok (.pointer (some (a.add 1))) w := by
  simp [Instr.fieldAt, Try.runUnderlying27, Instr.sureAddr, fieldPlace, Try.sizeOf3, Sem.run_bind, Sem.run_pure]
theorem fa_27_2 (a : Addr) (w : World) : (Instr.fieldAt 27 (.pointer (some a)) 2).run Try.prog w = .ok (.pointer (some (a.add 2))) w := by
  simp [Instr.fieldAt, Try.runUnderlying27, Instr.sureAddr, fieldPlace, Try.sizeOf3, Sem.run_bind, Sem.run_pure]
theorem fa_27_3 (a : Addr) (w : World) : (Instr.fieldAt 27 (.pointer (some a)) 3).run Try.prog w = .ok (.pointer (some (a.add 3))) w := by
  simp [Instr.fieldAt, Try.runUnderlying27, Instr.sureAddr, fieldPlace, Try.sizeOf3, Sem.run_bind, Sem.run_pure]
theorem fa_27_6 (a : Addr) (w : World) : (Instr.fieldAt 27 (.pointer (some a)) 6).run Try.prog w = .ok (.pointer (some (a.add 6))) w := by
  simp [Instr.fieldAt, Try.runUnderlying27, Instr.sureAddr, fieldPlace, Try.sizeOf25, Sem.run_bind, Sem.run_pure]
theorem bd_78_0 (a0_0 : Int) (w : World) : (Instr.build 78 #[(0, .int .i64 a0_0)]).run Try.prog w = .ok (.agg #[.int .i64 a0_0, .int .i64 0, .int .i64 0, .int .i64 0]) w := by kernel_rfl
theorem bd_80_0 (a0_0 : Int) (w : World) : (Instr.build 80 #[(0, .int .i64 a0_0)]).run Try.prog w = .ok (.agg #[.int .i64 a0_0, .bool false]) w := by kernel_rfl
theorem fa_60_1 (a : Addr) (w : World) : (Instr.fieldAt 60 (.pointer (some a)) 1).run Try.prog w = .ok (.pointer (some (a.add 1))) w := by
  simp [Instr.fieldAt, Try.runUnderlying60, Instr.sureAddr, fieldPlace, Try.sizeOf23, Sem.run_bind, Sem.run_pure]
theorem bd_40_0 (a0_0 : Int) (w : World) : (Instr.build 40 #[(0, .int .i64 a0_0)]).run Try.prog w = .ok (.agg #[.int .i64 a0_0, .int .i64 0, .int .i64 0]) w := by kernel_rfl
theorem fa_60_3 (a : Addr) (w : World) : (Instr.fieldAt 60 (.pointer (some a)) 3).run Try.prog w = .ok (.pointer (some (a.add 3))) w := by
  simp [Instr.fieldAt, Try.runUnderlying60, Instr.sureAddr, fieldPlace, Try.sizeOf57, Sem.run_bind, Sem.run_pure]
theorem fa_60_4 (a : Addr) (w : World) : (Instr.fieldAt 60 (.pointer (some a)) 4).run Try.prog w = .ok (.pointer (some (a.add 4))) w := by
  simp [Instr.fieldAt, Try.runUnderlying60, Instr.sureAddr, fieldPlace, Try.sizeOf58, Sem.run_bind, Sem.run_pure]
theorem fa_60_0 (a : Addr) (w : World) : (Instr.fieldAt 60 (.pointer (some a)) 0).run Try.prog w = .ok (.pointer (some (a.add 0))) w := by
  simp [Instr.fieldAt, Try.runUnderlying60, Instr.sureAddr, fieldPlace, Try.sizeOf23, Sem.run_bind, Sem.run_pure]
theorem fa_60_2 (a : Addr) (w : World) : (Instr.fieldAt 60 (.pointer (some a)) 2).run Try.prog w = .ok (.pointer (some (a.add 2))) w := by
  simp [Instr.fieldAt, Try.runUnderlying60, Instr.sureAddr, fieldPlace, Try.sizeOf24, Sem.run_bind, Sem.run_pure]
theorem bd_69_1 (a1_0 : Int) (w : World) : (Instr.build 69 #[(1, .int .i64 a1_0)]).run Try.prog w = .ok (.agg #[.string ⟨#[]⟩, .int .i64 a1_0, .int .i64 0, .int .i64 0, .int .i64 0, .int .i64 0, .slice none 0 0, .slice none 0 0]) w := by kernel_rfl
theorem fa_60_5 (a : Addr) (w : World) : (Instr.fieldAt 60 (.pointer (some a)) 5).run Try.prog w = .ok (.pointer (some (a.add 5))) w := by
  simp [Instr.fieldAt, Try.runUnderlying60, Instr.sureAddr, fieldPlace, Try.sizeOf25, Sem.run_bind, Sem.run_pure]
theorem bd_82_0 (a0_0 : Int) (w : World) : (Instr.build 82 #[(0, .int .i64 a0_0)]).run Try.prog w = .ok (.agg #[.int .i64 a0_0, .int .i64 0, .int .i64 0]) w := by kernel_rfl
abbrev Reg := Int × Int × Int × Int
abbrev Prt := Int × Bool
def prtRow (x : Prt) : List Value := [.int .i64 x.1, .bool x.2]
theorem wLen : ∀ x : Win, (winRow x).length = 3 := fun _ => rfl
theorem wSc : ∀ x : Win, (winRow x).all scalar = true := fun _ => rfl
theorem rLen : ∀ x : Reg, (spanRow x).length = 4 := fun _ => rfl
theorem rSc : ∀ x : Reg, (spanRow x).all scalar = true := fun _ => rfl
theorem pLen : ∀ x : Prt, (prtRow x).length = 2 := fun _ => rfl
theorem pSc : ∀ x : Prt, (prtRow x).all scalar = true := fun _ => rfl
theorem same_w (x : Win) (w : World) : (binOp .neq 40 (.agg (winRow x).toArray) (.agg (winRow x).toArray)).run Try.prog w = .ok (.bool false) w := (sqn_40 _ _ _ _ _ _ w).trans (by simp)
theorem same_h (x : Win) (w : World) : (binOp .neq 82 (.agg (winRow x).toArray) (.agg (winRow x).toArray)).run Try.prog w = .ok (.bool false) w := (sqn_82 _ _ _ _ _ _ w).trans (by simp)
theorem same_r (x : Reg) (w : World) : (binOp .neq 78 (.agg (spanRow x).toArray) (.agg (spanRow x).toArray)).run Try.prog w = .ok (.bool false) w := (sqn_78 _ _ _ _ _ _ _ _ w).trans (by simp)
theorem same_p (x : Prt) (w : World) : (binOp .neq 80 (.agg (prtRow x).toArray) (.agg (prtRow x).toArray)).run Try.prog w = .ok (.bool false) w := (sqn_80 _ _ _ _ w).trans (by simp)
def WMk (k : Nat) : Win := (-70 - (k : Int), 0, 0)
def RMk (k : Nat) : Reg := (-70 - (k : Int), 0, 0, 0)
def PMk (k : Nat) : Prt := (-70 - (k : Int), false)
theorem wm_push {L : List Win} {k : Int} (k0 : 0 ≤ k) : rowsT winRow (rm WMk L k.toNat) ++ [.int .i64 (-70 - k), .int .i64 0, .int .i64 0] = rowsT winRow (rm WMk L (k + 1).toNat) := by
  have := rowsT_snoc winRow (rm WMk L k.toNat) (WMk k.toNat)
  rw [rm_push, show k.toNat + 1 = (k + 1).toNat by omega] at this
  rw [← this]
  simp only [winRow, WMk, Int.toNat_of_nonneg k0]
theorem rm_pushR {L : List Reg} {k : Int} (k0 : 0 ≤ k) : rowsT spanRow (rm RMk L k.toNat) ++ [.int .i64 (-70 - k), .int .i64 0, .int .i64 0, .int .i64 0] = rowsT spanRow (rm RMk L (k + 1).toNat) := by
  have := rowsT_snoc spanRow (rm RMk L k.toNat) (RMk k.toNat)
  rw [rm_push, show k.toNat + 1 = (k + 1).toNat by omega] at this
  rw [← this]
  simp only [spanRow, RMk, Int.toNat_of_nonneg k0]
theorem rm_pushP {L : List Prt} {k : Int} (k0 : 0 ≤ k) : rowsT prtRow (rm PMk L k.toNat) ++ [.int .i64 (-70 - k), .bool false] = rowsT prtRow (rm PMk L (k + 1).toNat) := by
  have := rowsT_snoc prtRow (rm PMk L k.toNat) (PMk k.toNat)
  rw [rm_push, show k.toNat + 1 = (k + 1).toNat by omega] at this
  rw [← this]
  simp only [prtRow, PMk, Int.toNat_of_nonneg k0]
/-- A partition, with its lists. -/
structure PartR where
  nm : ByteArray
  e1 : Int
  e2 : Int
  e3 : Int
  e4 : Int
  e5 : Int
  ra : Option Addr
  rn : Nat
  rc : Nat
  R : List Reg
  qa : Option Addr
  qn : Nat
  qc : Nat
  Q : List Prt
def partRow (p : PartR) : List Value := [.string p.nm, .int .i64 p.e1, .int .i64 p.e2, .int .i64 p.e3, .int .i64 p.e4, .int .i64 p.e5, .slice p.ra p.rn p.rc, .slice p.qa p.qn p.qc]
theorem partLen : ∀ x : PartR, (partRow x).length = 8 := fun _ => rfl
def PXR (w0 : World) (F : List Atom) (a : Option Addr) (n : Nat) (P : Nat → PartR) : Prop := (∀ i, i < n → TR spanRow w0 F (P i).ra (P i).rn (P i).R ∧ TR prtRow w0 F (P i).qa (P i).qn (P i).Q) ∧ (n = 0 ∨ ∃ b o, a = some ⟨b, o, none⟩ ∧ ∀ i, i < n → RowAt w0 F b (o + i * 8) (partRow (P i)))
theorem PXR.ex {w0 : World} {F0 F : List Atom} {a n P} (h : PXR w0 F0 a n P) [e : Ext F0 F] : PXR w0 F a n P := ⟨fun i hi => ⟨(h.1 i hi).1.ex, (h.1 i hi).2.ex⟩, h.2.imp id fun ⟨b, o, h1, h2⟩ => ⟨b, o, h1, fun i hi => (h2 i hi).ex⟩⟩
theorem PXR.some {w0 : World} {F : List Atom} {a n P} (h : PXR w0 F a n P) {i : Nat} (hi : i < n) : ∃ b o, a = some ⟨b, o, none⟩ ∧ ∀ i, i < n → RowAt w0 F b (o + i * 8) (partRow (P i)) := by
  rcases h.2 with h | h
  · omega
  · exact h
theorem PXR.trR {w0 : World} {F : List Atom} {a n P} (h : PXR w0 F a n P) {i : Nat} {nm e1 e2 e3 e4 e5 ra rn rc R qa qn qc Q} (hp : P i = ⟨nm, e1, e2, e3, e4, e5, ra, rn, rc, R, qa, qn, qc, Q⟩) (hi : i < n) : TR spanRow w0 F ra rn R := by
  have := (h.1 i hi).1
  rwa [hp] at this
theorem PXR.trQ {w0 : World} {F : List Atom} {a n P} (h : PXR w0 F a n P) {i : Nat} {nm e1 e2 e3 e4 e5 ra rn rc R qa qn qc Q} (hp : P i = ⟨nm, e1, e2, e3, e4, e5, ra, rn, rc, R, qa, qn, qc, Q⟩) (hi : i < n) : TR prtRow w0 F qa qn Q := by
  have := (h.1 i hi).2
  rwa [hp] at this
theorem px_row {w0 : World} {F0 F : List Atom} {b o n i : Nat} {P : Nat → PartR} {p : PartR} (h : ∀ i, i < n → RowAt w0 F0 b (o + i * 8) (partRow (P i))) (hp : P i = p) (hi : i < n) [e : Ext F0 F] : RowAt w0 F b (o + i * 8) (partRow p) := by
  have := (h i hi).ex (F := F)
  rwa [hp] at this
def SK (n : Nat) (K K2 : Nat → LX Win) : Prop := ∀ i, i < n → (K i).n = (K2 i).n ∧ (K i).L = (K2 i).L
def PSame (p q : PartR) : Prop := p.nm = q.nm ∧ p.e1 = q.e1 ∧ p.e2 = q.e2 ∧ p.e3 = q.e3 ∧ p.e4 = q.e4 ∧ p.e5 = q.e5 ∧ p.rn = q.rn ∧ p.R = q.R ∧ p.qn = q.qn ∧ p.Q = q.Q
def SPa (n : Nat) (P P2 : Nat → PartR) : Prop := ∀ i, i < n → PSame (P i) (P2 i)
theorem some_eq {α : Type} {l : Option α} {x y : α} (h1 : l = some x) (h2 : l = some y) : x = y := Option.some.inj (h1.symm.trans h2)
theorem samewin_ok (w0 : World) (F : List Atom) (a a2 : Option Addr) (n c c2 : Nat) (L : List Win) (h1 : TR winRow w0 F a n L) (h2 : TR winRow w0 F a2 n L) (hn : n ≤ 140737488355328) :
    CallK Try.prog 49 [.slice a n c, .slice a2 n c2] w0 (F) (Gives w0 fun v F2 => v = .bool true ∧ F2 = F) := by
  refine c_enter Try.func49 rfl rfl rfl ?_
  refine g_seq ?_
  refine g_region ?_
  refine l_assign rfl rfl ?_
  refine l_nil ?_
  refine g_seq ?_
  refine g_seq ?_
  refine g_region ?_
  refine l_move rfl rfl ?_
  refine l_len rfl Try.underlying38 rfl ?_
  refine l_move rfl rfl ?_
  refine l_len rfl Try.underlying38 rfl ?_
  refine l_neq rfl rfl rfl ?_
  refine l_nil ?_
  refine g_cond rfl ?_ ?_
  · intro hbr
    have hbr := of_decide_eq_true hbr
    (exfalso; omega)
  intro hbr
  have hbr := of_decide_eq_false hbr
  refine g_skip ?_
  refine g_seq ?_
  refine g_seq ?_
  refine g_region ?_
  refine l_move rfl rfl ?_
  refine l_len rfl Try.underlying38 rfl ?_
  refine l_move rfl rfl ?_
  refine l_nil ?_
  refine g_block ?_
  refine g_loopc (X := Int) [(0, _), (1, _), (12, _)] (.cons rfl (.cons rfl (.cons rfl (.nil)))) (fun i => 0 ≤ i ∧ i ≤ n) (fun i => (n - i).toNat) (fun i => [(13, .int .i64 i)]) (0) (by omega) (.cons rfl .nil) ?_
  rintro i ⟨i0, i1⟩ ih
  dsimp only [List.cons_append, List.nil_append] at ih ⊢
  refine g_seq ?_
  refine g_region ?_
  refine l_lss rfl rfl rfl ?_
  refine l_nil ?_
  refine g_seq ?_
  refine g_cond rfl ?_ ?_
  · intro hbr
    have hbr := of_decide_eq_true hbr
    refine g_skip ?_
    refine g_seq ?_
    refine g_block ?_
    refine g_seq ?_
    refine g_region ?_
    refine l_move rfl rfl ?_
    refine l_assign rfl rfl ?_
    refine l_nil ?_
    refine g_seq ?_
    refine gp_start mo (by kernel_rfl) (by kernel_rfl) ?_
    refine gp_quiet 0 rfl rfl rfl rfl rfl rfl (q_move rfl) ?_
    refine gp_quiet 1 rfl rfl rfl rfl rfl rfl (q_move rfl) ?_
    obtain ⟨b9, o9, x9, rfl, hr9, hx9⟩ := h1.some (i := i.toNat) (by omega)
    obtain ⟨b7, o7, x7, rfl, hr7, hx7⟩ := h2.some (i := i.toNat) (by omega)
    obtain rfl : x9 = x7 := some_eq hx9 hx7
    refine gp_quiet 2 rfl rfl rfl rfl rfl rfl (q_ixs Try.underlying38 Try.sizeOf40 rfl rfl (by omega) (by omega)) ?_
    refine gp_quiet 3 rfl rfl rfl rfl rfl rfl (q_loadr (l := winRow x9) Try.isAgg40 Try.sizeOf40 rfl rfl (tr_row wLen hr9 hx9)) ?_
    refine gp_quiet 4 rfl rfl rfl rfl rfl rfl (q_move rfl) ?_
    refine gp_quiet 5 rfl rfl rfl rfl rfl rfl (q_move rfl) ?_
    refine gp_quiet 6 rfl rfl rfl rfl rfl rfl (q_ixs Try.underlying38 Try.sizeOf40 rfl rfl (by omega) (by omega)) ?_
    refine gp_quiet 7 rfl rfl rfl rfl rfl rfl (q_loadr (l := winRow x9) Try.isAgg40 Try.sizeOf40 rfl rfl (tr_row wLen hr7 hx7)) ?_
    refine gp_quiet 8 rfl rfl rfl rfl rfl rfl (q_bin rfl rfl (fun w => run_eqGuard_agg w _ _ _ _ _ _ Try.eqGuardType40) (fun w => same_w _ w)) ?_
    refine gp_end rfl rfl ?_
    first | refine g_cond_f rfl ?_ | refine g_cond_f (congrArg (fun b => some (Value.bool b)) (decide_eq_false hbr)) ?_
    refine g_skip ?_
    refine g_inBlock ?_
    refine g_region ?_
    first | refine l_add rfl rfl rfl (w_i64 (by omega) (by omega)) ?_ | refine l_addw rfl rfl rfl ?_
    refine l_move rfl rfl ?_
    refine l_nil ?_
    exact g_againi (ih (i + 1) (by omega) (by omega)) (.cons rfl (.cons rfl (.cons rfl (.cons rfl (.nil)))))
  intro hbr
  have hbr := of_decide_eq_false hbr
  refine g_exit rfl ?_
  refine g_seq ?_
  refine g_region ?_
  refine l_assign rfl rfl ?_
  refine l_nil ?_
  refine g_ret Try.func49 rfl (.tmp rfl .nil) ?_
  exact Gives.mki ⟨rfl, rfl⟩
theorem samepart_ok (w0 : World) (F : List Atom) (nm : ByteArray) (e1 e2 e3 e4 e5 : Int) (ra ra2 qa qa2 : Option Addr) (rn rc rc2 qn qc qc2 : Nat) (R : List Reg) (Q : List Prt) (h1 : TR spanRow w0 F ra rn R) (h2 : TR spanRow w0 F ra2 rn R) (h3 : TR prtRow w0 F qa qn Q) (h4 : TR prtRow w0 F qa2 qn Q) (hn : rn ≤ 140737488355328) (hn2 : qn ≤ 140737488355328) :
    CallK Try.prog 47 [.agg [.string nm, .int .i64 e1, .int .i64 e2, .int .i64 e3, .int .i64 e4, .int .i64 e5, .slice ra rn rc, .slice qa qn qc].toArray, .agg [.string nm, .int .i64 e1, .int .i64 e2, .int .i64 e3, .int .i64 e4, .int .i64 e5, .slice ra2 rn rc2, .slice qa2 qn qc2].toArray] w0 (F) (Gives w0 fun v F2 => v = .bool true ∧ F2 = F) := by
  refine c_enter Try.func47 rfl rfl rfl ?_
  refine g_seq ?_
  refine g_region ?_
  refine l_boxs rfl rfl ?_; intro b2
  refine l_boxs rfl rfl ?_; intro b3
  refine l_assign rfl rfl ?_
  refine l_nil ?_
  refine g_seq ?_
  refine g_region ?_
  refine l_fieldAddr rfl fa_69_1 rfl ?_
  first | refine l_ld rfl Try.isAgg3 rfl rfl ?_ | refine l_ldw rfl Try.isAgg3 rfl (by omega) ?_
  refine l_fieldAddr rfl fa_69_1 rfl ?_
  first | refine l_ld rfl Try.isAgg3 rfl rfl ?_ | refine l_ldw rfl Try.isAgg3 rfl (by omega) ?_
  refine l_eql rfl rfl rfl ?_
  refine l_move rfl rfl ?_
  refine l_split 13 rfl ?_ ?_
  · intro hbr
    have hbr := of_decide_eq_true hbr
    refine l_guard_yes rfl rfl ?_
    refine l_fieldAddr rfl fa_69_2 rfl ?_
    refine l_guard_yes rfl rfl ?_
    first | refine l_ld rfl Try.isAgg3 rfl rfl ?_ | refine l_ldw rfl Try.isAgg3 rfl (by omega) ?_
    refine l_guard_yes rfl rfl ?_
    refine l_fieldAddr rfl fa_69_2 rfl ?_
    refine l_guard_yes rfl rfl ?_
    first | refine l_ld rfl Try.isAgg3 rfl rfl ?_ | refine l_ldw rfl Try.isAgg3 rfl (by omega) ?_
    refine l_guard_yes rfl rfl ?_
    refine l_eql rfl rfl rfl ?_
    refine l_pick_t rfl rfl rfl ?_
    refine l_move rfl rfl ?_
    refine l_split 20 rfl ?_ ?_
    · intro hbr
      have hbr := of_decide_eq_true hbr
      refine l_guard_yes rfl rfl ?_
      refine l_fieldAddr rfl fa_69_3 rfl ?_
      refine l_guard_yes rfl rfl ?_
      first | refine l_ld rfl Try.isAgg3 rfl rfl ?_ | refine l_ldw rfl Try.isAgg3 rfl (by omega) ?_
      refine l_guard_yes rfl rfl ?_
      refine l_fieldAddr rfl fa_69_3 rfl ?_
      refine l_guard_yes rfl rfl ?_
      first | refine l_ld rfl Try.isAgg3 rfl rfl ?_ | refine l_ldw rfl Try.isAgg3 rfl (by omega) ?_
      refine l_guard_yes rfl rfl ?_
      refine l_eql rfl rfl rfl ?_
      refine l_pick_t rfl rfl rfl ?_
      refine l_move rfl rfl ?_
      refine l_split 27 rfl ?_ ?_
      · intro hbr
        have hbr := of_decide_eq_true hbr
        refine l_guard_yes rfl rfl ?_
        refine l_fieldAddr rfl fa_69_4 rfl ?_
        refine l_guard_yes rfl rfl ?_
        first | refine l_ld rfl Try.isAgg3 rfl rfl ?_ | refine l_ldw rfl Try.isAgg3 rfl (by omega) ?_
        refine l_guard_yes rfl rfl ?_
        refine l_fieldAddr rfl fa_69_4 rfl ?_
        refine l_guard_yes rfl rfl ?_
        first | refine l_ld rfl Try.isAgg3 rfl rfl ?_ | refine l_ldw rfl Try.isAgg3 rfl (by omega) ?_
        refine l_guard_yes rfl rfl ?_
        refine l_eql rfl rfl rfl ?_
        refine l_pick_t rfl rfl rfl ?_
        refine l_move rfl rfl ?_
        refine l_split 34 rfl ?_ ?_
        · intro hbr
          have hbr := of_decide_eq_true hbr
          refine l_guard_yes rfl rfl ?_
          refine l_fieldAddr rfl fa_69_5 rfl ?_
          refine l_guard_yes rfl rfl ?_
          first | refine l_ld rfl Try.isAgg3 rfl rfl ?_ | refine l_ldw rfl Try.isAgg3 rfl (by omega) ?_
          refine l_guard_yes rfl rfl ?_
          refine l_fieldAddr rfl fa_69_5 rfl ?_
          refine l_guard_yes rfl rfl ?_
          first | refine l_ld rfl Try.isAgg3 rfl rfl ?_ | refine l_ldw rfl Try.isAgg3 rfl (by omega) ?_
          refine l_guard_yes rfl rfl ?_
          refine l_eql rfl rfl rfl ?_
          refine l_pick_t rfl rfl rfl ?_
          refine l_assign rfl rfl ?_
          refine l_nil ?_
          refine g_seq ?_
          refine g_seq ?_
          refine g_region ?_
          refine l_fieldAddr rfl fa_69_0 rfl ?_
          refine l_ld rfl Try.isAgg9 rfl rfl ?_
          refine l_fieldAddr rfl fa_69_0 rfl ?_
          refine l_ld rfl Try.isAgg9 rfl rfl ?_
          refine l_neqs rfl rfl rfl ?_
          refine l_move rfl rfl ?_
          refine l_split 46 rfl ?_ ?_
          · intro hbr
            first | (exfalso; simp at hbr; done) | (exfalso; simp at hbr; omega) | (exfalso; first | omega | (simp at hbr; done))
          intro hbr
          have hb46 := hbr
          refine l_guard_yes rfl rfl ?_
          refine l_move rfl rfl ?_
          refine l_guard_yes rfl rfl ?_
          refine l_not rfl rfl ?_
          refine l_pick_f rfl rfl rfl ?_
          refine l_move rfl rfl ?_
          refine l_split 50 rfl ?_ ?_
          · intro hbr
            have hbr := of_decide_eq_false (nb_t hbr)
            (exfalso; first | omega | (simp at hbr; done))
          intro hbr
          have hbr := of_decide_eq_true (nb_f hbr)
          refine l_guard_yes rfl rfl ?_
          refine l_fieldAddr rfl fa_69_6 rfl ?_
          refine l_guard_yes rfl rfl ?_
          refine l_ld rfl Try.isAgg66 rfl rfl ?_
          refine l_guard_yes rfl rfl ?_
          refine l_len rfl Try.underlying66 rfl ?_
          refine l_guard_yes rfl rfl ?_
          refine l_fieldAddr rfl fa_69_6 rfl ?_
          refine l_guard_yes rfl rfl ?_
          refine l_ld rfl Try.isAgg66 rfl rfl ?_
          refine l_guard_yes rfl rfl ?_
          refine l_len rfl Try.underlying66 rfl ?_
          refine l_guard_yes rfl rfl ?_
          refine l_neq rfl rfl rfl ?_
          refine l_pick_f rfl rfl rfl ?_
          refine l_move rfl rfl ?_
          refine l_split 59 rfl ?_ ?_
          · intro hbr
            have hbr := of_decide_eq_true hbr
            (exfalso; first | omega | (simp at hbr; done))
          intro hbr
          have hbr := of_decide_eq_false hbr
          refine l_guard_yes rfl rfl ?_
          refine l_fieldAddr rfl fa_69_7 rfl ?_
          refine l_guard_yes rfl rfl ?_
          refine l_ld rfl Try.isAgg67 rfl rfl ?_
          refine l_guard_yes rfl rfl ?_
          refine l_len rfl Try.underlying67 rfl ?_
          refine l_guard_yes rfl rfl ?_
          refine l_fieldAddr rfl fa_69_7 rfl ?_
          refine l_guard_yes rfl rfl ?_
          refine l_ld rfl Try.isAgg67 rfl rfl ?_
          refine l_guard_yes rfl rfl ?_
          refine l_len rfl Try.underlying67 rfl ?_
          refine l_guard_yes rfl rfl ?_
          refine l_neq rfl rfl rfl ?_
          refine l_pick_f rfl rfl rfl ?_
          refine l_nil ?_
          refine g_cond rfl ?_ ?_
          · intro hbr
            have hbr := of_decide_eq_true hbr
            (exfalso; first | omega | (simp at hbr; done))
          intro hbr
          have hbr := of_decide_eq_false hbr
          refine g_skip ?_
          refine g_seq ?_
          refine g_seq ?_
          refine g_region ?_
          refine l_fieldAddr rfl fa_69_6 rfl ?_
          refine l_ld rfl Try.isAgg66 rfl rfl ?_
          refine l_len rfl Try.underlying66 rfl ?_
          refine l_move rfl rfl ?_
          refine l_nil ?_
          refine g_block ?_
          refine g_loopc (X := Int) [(2, _), (3, _), (70, _)] (.cons rfl (.cons rfl (.cons rfl (.nil)))) (fun i => 0 ≤ i ∧ i ≤ rn) (fun i => (rn - i).toNat) (fun i => [(71, .int .i64 i)]) (0) (by omega) (.cons rfl .nil) ?_
          rintro i ⟨i0, i1⟩ ih
          dsimp only [List.cons_append, List.nil_append] at ih ⊢
          refine g_seq ?_
          refine g_region ?_
          refine l_lss rfl rfl rfl ?_
          refine l_nil ?_
          refine g_seq ?_
          refine g_cond rfl ?_ ?_
          · intro hbr
            have hbr := of_decide_eq_true hbr
            refine g_skip ?_
            refine g_seq ?_
            refine g_block ?_
            refine g_seq ?_
            refine g_region ?_
            refine l_move rfl rfl ?_
            refine l_assign rfl rfl ?_
            refine l_nil ?_
            refine g_seq ?_
            refine gp_start mo (by kernel_rfl) (by kernel_rfl) ?_
            refine gp_quiet 0 rfl rfl rfl rfl rfl rfl (q_fieldAddr fa_69_6 rfl) ?_
            refine gp_quiet 1 rfl rfl rfl rfl rfl rfl (q_ld Try.isAgg66 rfl rfl) ?_
            refine gp_quiet 2 rfl rfl rfl rfl rfl rfl (q_move rfl) ?_
            obtain ⟨b9, o9, x9, rfl, hr9, hx9⟩ := h1.some (i := i.toNat) (by omega)
            obtain ⟨b7, o7, x7, rfl, hr7, hx7⟩ := h2.some (i := i.toNat) (by omega)
            obtain rfl : x9 = x7 := some_eq hx9 hx7
            refine gp_quiet 3 rfl rfl rfl rfl rfl rfl (q_ixs Try.underlying66 Try.sizeOf78 rfl rfl (by omega) (by omega)) ?_
            refine gp_quiet 4 rfl rfl rfl rfl rfl rfl (q_loadr (l := spanRow x9) Try.isAgg78 Try.sizeOf78 rfl rfl (tr_row rLen hr9 hx9)) ?_
            refine gp_quiet 5 rfl rfl rfl rfl rfl rfl (q_fieldAddr fa_69_6 rfl) ?_
            refine gp_quiet 6 rfl rfl rfl rfl rfl rfl (q_ld Try.isAgg66 rfl rfl) ?_
            refine gp_quiet 7 rfl rfl rfl rfl rfl rfl (q_move rfl) ?_
            refine gp_quiet 8 rfl rfl rfl rfl rfl rfl (q_ixs Try.underlying66 Try.sizeOf78 rfl rfl (by omega) (by omega)) ?_
            refine gp_quiet 9 rfl rfl rfl rfl rfl rfl (q_loadr (l := spanRow x9) Try.isAgg78 Try.sizeOf78 rfl rfl (tr_row rLen hr7 hx7)) ?_
            refine gp_quiet 10 rfl rfl rfl rfl rfl rfl (q_bin rfl rfl (fun w => run_eqGuard_agg w _ _ _ _ _ _ Try.eqGuardType78) (fun w => same_r _ w)) ?_
            refine gp_end rfl rfl ?_
            first | refine g_cond_f rfl ?_ | refine g_cond_f (congrArg (fun b => some (Value.bool b)) (decide_eq_false hbr)) ?_
            refine g_skip ?_
            refine g_inBlock ?_
            refine g_region ?_
            first | refine l_add rfl rfl rfl (w_i64 (by omega) (by omega)) ?_ | refine l_addw rfl rfl rfl ?_
            refine l_move rfl rfl ?_
            refine l_nil ?_
            exact g_againi (ih (i + 1) (by omega) (by omega)) (.cons rfl (.cons rfl (.cons rfl (.cons rfl (.nil)))))
          intro hbr
          have hbr := of_decide_eq_false hbr
          refine g_exit rfl ?_
          refine g_seq ?_
          refine g_seq ?_
          refine g_region ?_
          refine l_fieldAddr rfl fa_69_7 rfl ?_
          refine l_ld rfl Try.isAgg67 rfl rfl ?_
          refine l_len rfl Try.underlying67 rfl ?_
          refine l_move rfl rfl ?_
          refine l_nil ?_
          refine g_block ?_
          refine g_loopc (X := Int) [(2, _), (3, _), (88, _)] (.cons rfl (.cons rfl (.cons rfl (.nil)))) (fun j => 0 ≤ j ∧ j ≤ qn) (fun j => (qn - j).toNat) (fun j => [(89, .int .i64 j)]) (0) (by omega) (.cons rfl .nil) ?_
          rintro j ⟨j0, j1⟩ ihj
          dsimp only [List.cons_append, List.nil_append] at ihj ⊢
          refine g_seq ?_
          refine g_region ?_
          refine l_lss rfl rfl rfl ?_
          refine l_nil ?_
          refine g_seq ?_
          refine g_cond rfl ?_ ?_
          · intro hbr
            have hbr := of_decide_eq_true hbr
            refine g_skip ?_
            refine g_seq ?_
            refine g_block ?_
            refine g_seq ?_
            refine g_region ?_
            refine l_move rfl rfl ?_
            refine l_assign rfl rfl ?_
            refine l_nil ?_
            refine g_seq ?_
            refine gp_start mo (by kernel_rfl) (by kernel_rfl) ?_
            refine gp_quiet 0 rfl rfl rfl rfl rfl rfl (q_fieldAddr fa_69_7 rfl) ?_
            refine gp_quiet 1 rfl rfl rfl rfl rfl rfl (q_ld Try.isAgg67 rfl rfl) ?_
            refine gp_quiet 2 rfl rfl rfl rfl rfl rfl (q_move rfl) ?_
            obtain ⟨b6, o6, x6, rfl, hr6, hx6⟩ := h3.some (i := j.toNat) (by omega)
            obtain ⟨b5, o5, x5, rfl, hr5, hx5⟩ := h4.some (i := j.toNat) (by omega)
            obtain rfl : x6 = x5 := some_eq hx6 hx5
            refine gp_quiet 3 rfl rfl rfl rfl rfl rfl (q_ixs Try.underlying67 Try.sizeOf80 rfl rfl (by omega) (by omega)) ?_
            refine gp_quiet 4 rfl rfl rfl rfl rfl rfl (q_loadr (l := prtRow x6) Try.isAgg80 Try.sizeOf80 rfl rfl (tr_row pLen hr6 hx6)) ?_
            refine gp_quiet 5 rfl rfl rfl rfl rfl rfl (q_fieldAddr fa_69_7 rfl) ?_
            refine gp_quiet 6 rfl rfl rfl rfl rfl rfl (q_ld Try.isAgg67 rfl rfl) ?_
            refine gp_quiet 7 rfl rfl rfl rfl rfl rfl (q_move rfl) ?_
            refine gp_quiet 8 rfl rfl rfl rfl rfl rfl (q_ixs Try.underlying67 Try.sizeOf80 rfl rfl (by omega) (by omega)) ?_
            refine gp_quiet 9 rfl rfl rfl rfl rfl rfl (q_loadr (l := prtRow x6) Try.isAgg80 Try.sizeOf80 rfl rfl (tr_row pLen hr5 hx5)) ?_
            refine gp_quiet 10 rfl rfl rfl rfl rfl rfl (q_bin rfl rfl (fun w => run_eqGuard_agg w _ _ _ _ _ _ Try.eqGuardType80) (fun w => same_p _ w)) ?_
            refine gp_end rfl rfl ?_
            first | refine g_cond_f rfl ?_ | refine g_cond_f (congrArg (fun b => some (Value.bool b)) (decide_eq_false hbr)) ?_
            refine g_skip ?_
            refine g_inBlock ?_
            refine g_region ?_
            first | refine l_add rfl rfl rfl (w_i64 (by omega) (by omega)) ?_ | refine l_addw rfl rfl rfl ?_
            refine l_move rfl rfl ?_
            refine l_nil ?_
            exact g_againi (ihj (j + 1) (by omega) (by omega)) (.cons rfl (.cons rfl (.cons rfl (.cons rfl (.nil)))))
          intro hbr
          have hbr := of_decide_eq_false hbr
          refine g_exit rfl ?_
          refine g_seq ?_
          refine g_region ?_
          refine l_assign rfl rfl ?_
          refine l_nil ?_
          refine g_ret Try.func47 rfl (.tmp rfl .nil) ?_
          exact Gives.mki ⟨rfl, rfl⟩
        · intro hbr
          have hbr := of_decide_eq_false hbr
          (exfalso; first | omega | (simp at hbr; done))
      · intro hbr
        have hbr := of_decide_eq_false hbr
        (exfalso; first | omega | (simp at hbr; done))
    · intro hbr
      have hbr := of_decide_eq_false hbr
      (exfalso; first | omega | (simp at hbr; done))
  · intro hbr
    have hbr := of_decide_eq_false hbr
    (exfalso; first | omega | (simp at hbr; done))
theorem rsame_ok (w0 : World) (F : List Atom) (fr mj kr rr : Int) (ca pa ha ca2 pa2 ha2 : Option Addr) (cn cc pn pc hn hc cc2 pc2 hc2 : Nat) (K K2 : Nat → LX Win) (P P2 : Nat → PartR) (H : List Win) (hK : LLR winRow w0 F ca cn K) (hK2 : LLR winRow w0 F ca2 cn K2) (hP : PXR w0 F pa pn P) (hP2 : PXR w0 F pa2 pn P2) (hH : TR winRow w0 F ha hn H) (hH2 : TR winRow w0 F ha2 hn H) (sK : SK cn K K2) (sP : SPa pn P P2) (hcn : cn ≤ 140737488355328) (hpn : pn ≤ 140737488355328) (hhn : hn ≤ 140737488355328) (hkn : ∀ i, i < cn → (K i).n ≤ 140737488355328) (hpk : ∀ i, i < pn → (P i).rn ≤ 140737488355328 ∧ (P i).qn ≤ 140737488355328) :
    CallK Try.prog 45 [.agg [Value.int .i64 fr, .int .i64 mj, .int .i64 kr, .int .i64 rr, .slice ca cn cc, .slice pa pn pc, .slice ha hn hc].toArray, .agg [Value.int .i64 fr, .int .i64 mj, .int .i64 kr, .int .i64 rr, .slice ca2 cn cc2, .slice pa2 pn pc2, .slice ha2 hn hc2].toArray] w0 (F) (Gives w0 fun v F2 => v = .bool true ∧ F2 = F) := by
  refine c_enter Try.func45 rfl rfl rfl ?_
  refine g_seq ?_
  refine g_region ?_
  refine l_boxs rfl rfl ?_; intro b2
  refine l_boxs rfl rfl ?_; intro b3
  refine l_assign rfl rfl ?_
  refine l_nil ?_
  refine g_seq ?_
  refine g_seq ?_
  refine g_region ?_
  refine l_fieldAddr rfl fa_27_0 rfl ?_
  first | refine l_ld rfl Try.isAgg3 rfl rfl ?_ | refine l_ldw rfl Try.isAgg3 rfl (by omega) ?_
  refine l_fieldAddr rfl fa_27_0 rfl ?_
  first | refine l_ld rfl Try.isAgg3 rfl rfl ?_ | refine l_ldw rfl Try.isAgg3 rfl (by omega) ?_
  refine l_neq rfl rfl rfl ?_
  refine l_move rfl rfl ?_
  refine l_split 13 rfl ?_ ?_
  · intro hbr
    have hbr := of_decide_eq_true hbr
    (exfalso; first | omega | (simp at hbr; done))
  intro hbr
  have hbr := of_decide_eq_false hbr
  refine l_guard_yes rfl rfl ?_
  refine l_fieldAddr rfl fa_27_1 rfl ?_
  refine l_guard_yes rfl rfl ?_
  first | refine l_ld rfl Try.isAgg3 rfl rfl ?_ | refine l_ldw rfl Try.isAgg3 rfl (by omega) ?_
  refine l_guard_yes rfl rfl ?_
  refine l_fieldAddr rfl fa_27_1 rfl ?_
  refine l_guard_yes rfl rfl ?_
  first | refine l_ld rfl Try.isAgg3 rfl rfl ?_ | refine l_ldw rfl Try.isAgg3 rfl (by omega) ?_
  refine l_guard_yes rfl rfl ?_
  refine l_neq rfl rfl rfl ?_
  refine l_pick_f rfl rfl rfl ?_
  refine l_move rfl rfl ?_
  refine l_split 20 rfl ?_ ?_
  · intro hbr
    have hbr := of_decide_eq_true hbr
    (exfalso; first | omega | (simp at hbr; done))
  intro hbr
  have hbr := of_decide_eq_false hbr
  refine l_guard_yes rfl rfl ?_
  refine l_fieldAddr rfl fa_27_2 rfl ?_
  refine l_guard_yes rfl rfl ?_
  first | refine l_ld rfl Try.isAgg3 rfl rfl ?_ | refine l_ldw rfl Try.isAgg3 rfl (by omega) ?_
  refine l_guard_yes rfl rfl ?_
  refine l_fieldAddr rfl fa_27_2 rfl ?_
  refine l_guard_yes rfl rfl ?_
  first | refine l_ld rfl Try.isAgg3 rfl rfl ?_ | refine l_ldw rfl Try.isAgg3 rfl (by omega) ?_
  refine l_guard_yes rfl rfl ?_
  refine l_neq rfl rfl rfl ?_
  refine l_pick_f rfl rfl rfl ?_
  refine l_move rfl rfl ?_
  refine l_split 27 rfl ?_ ?_
  · intro hbr
    have hbr := of_decide_eq_true hbr
    (exfalso; first | omega | (simp at hbr; done))
  intro hbr
  have hbr := of_decide_eq_false hbr
  refine l_guard_yes rfl rfl ?_
  refine l_fieldAddr rfl fa_27_3 rfl ?_
  refine l_guard_yes rfl rfl ?_
  first | refine l_ld rfl Try.isAgg3 rfl rfl ?_ | refine l_ldw rfl Try.isAgg3 rfl (by omega) ?_
  refine l_guard_yes rfl rfl ?_
  refine l_fieldAddr rfl fa_27_3 rfl ?_
  refine l_guard_yes rfl rfl ?_
  first | refine l_ld rfl Try.isAgg3 rfl rfl ?_ | refine l_ldw rfl Try.isAgg3 rfl (by omega) ?_
  refine l_guard_yes rfl rfl ?_
  refine l_neq rfl rfl rfl ?_
  refine l_pick_f rfl rfl rfl ?_
  refine l_nil ?_
  refine g_cond rfl ?_ ?_
  · intro hbr
    have hbr := of_decide_eq_true hbr
    (exfalso; first | omega | (simp at hbr; done))
  intro hbr
  have hbr := of_decide_eq_false hbr
  refine g_skip ?_
  refine g_seq ?_
  refine g_seq ?_
  refine g_region ?_
  refine l_fieldAddr rfl fa_27_4 rfl ?_
  refine l_ld rfl Try.isAgg23 rfl rfl ?_
  refine l_len rfl Try.underlying23 rfl ?_
  refine l_fieldAddr rfl fa_27_4 rfl ?_
  refine l_ld rfl Try.isAgg23 rfl rfl ?_
  refine l_len rfl Try.underlying23 rfl ?_
  refine l_neq rfl rfl rfl ?_
  refine l_move rfl rfl ?_
  refine l_split 41 rfl ?_ ?_
  · intro hbr
    have hbr := of_decide_eq_true hbr
    (exfalso; first | omega | (simp at hbr; done))
  intro hbr
  have hbr := of_decide_eq_false hbr
  refine l_guard_yes rfl rfl ?_
  refine l_fieldAddr rfl fa_27_5 rfl ?_
  refine l_guard_yes rfl rfl ?_
  refine l_ld rfl Try.isAgg24 rfl rfl ?_
  refine l_guard_yes rfl rfl ?_
  refine l_len rfl Try.underlying24 rfl ?_
  refine l_guard_yes rfl rfl ?_
  refine l_fieldAddr rfl fa_27_5 rfl ?_
  refine l_guard_yes rfl rfl ?_
  refine l_ld rfl Try.isAgg24 rfl rfl ?_
  refine l_guard_yes rfl rfl ?_
  refine l_len rfl Try.underlying24 rfl ?_
  refine l_guard_yes rfl rfl ?_
  refine l_neq rfl rfl rfl ?_
  refine l_pick_f rfl rfl rfl ?_
  refine l_move rfl rfl ?_
  refine l_split 50 rfl ?_ ?_
  · intro hbr
    have hbr := of_decide_eq_true hbr
    (exfalso; first | omega | (simp at hbr; done))
  intro hbr
  have hbr := of_decide_eq_false hbr
  refine l_guard_yes rfl rfl ?_
  refine l_fieldAddr rfl fa_27_6 rfl ?_
  refine l_guard_yes rfl rfl ?_
  refine l_ld rfl Try.isAgg25 rfl rfl ?_
  refine l_guard_yes rfl rfl ?_
  refine l_len rfl Try.underlying25 rfl ?_
  refine l_guard_yes rfl rfl ?_
  refine l_fieldAddr rfl fa_27_6 rfl ?_
  refine l_guard_yes rfl rfl ?_
  refine l_ld rfl Try.isAgg25 rfl rfl ?_
  refine l_guard_yes rfl rfl ?_
  refine l_len rfl Try.underlying25 rfl ?_
  refine l_guard_yes rfl rfl ?_
  refine l_neq rfl rfl rfl ?_
  refine l_pick_f rfl rfl rfl ?_
  refine l_nil ?_
  refine g_cond rfl ?_ ?_
  · intro hbr
    have hbr := of_decide_eq_true hbr
    (exfalso; first | omega | (simp at hbr; done))
  intro hbr
  have hbr := of_decide_eq_false hbr
  refine g_skip ?_
  refine g_seq ?_
  refine g_seq ?_
  refine g_region ?_
  refine l_fieldAddr rfl fa_27_4 rfl ?_
  refine l_ld rfl Try.isAgg23 rfl rfl ?_
  refine l_len rfl Try.underlying23 rfl ?_
  refine l_move rfl rfl ?_
  refine l_nil ?_
  refine g_block ?_
  refine g_loopc (X := Int) [(2, _), (3, _), (61, _)] (.cons rfl (.cons rfl (.cons rfl (.nil)))) (fun i => 0 ≤ i ∧ i ≤ cn) (fun i => (cn - i).toNat) (fun i => [(62, .int .i64 i)]) (0) (by omega) (.cons rfl .nil) ?_
  rintro i ⟨i0, i1⟩ ih
  dsimp only [List.cons_append, List.nil_append] at ih ⊢
  refine g_seq ?_
  refine g_region ?_
  refine l_lss rfl rfl rfl ?_
  refine l_nil ?_
  refine g_seq ?_
  refine g_cond rfl ?_ ?_
  · intro hbr
    have hbr := of_decide_eq_true hbr
    refine g_skip ?_
    refine g_seq ?_
    refine g_block ?_
    refine g_seq ?_
    refine g_region ?_
    refine l_move rfl rfl ?_
    refine l_assign rfl rfl ?_
    refine l_nil ?_
    refine g_seq ?_
    refine gp_start mo (by kernel_rfl) (by kernel_rfl) ?_
    refine gp_quiet 0 rfl rfl rfl rfl rfl rfl (q_fieldAddr fa_27_4 rfl) ?_
    refine gp_quiet 1 rfl rfl rfl rfl rfl rfl (q_ld Try.isAgg23 rfl rfl) ?_
    refine gp_quiet 2 rfl rfl rfl rfl rfl rfl (q_move rfl) ?_
    obtain ⟨⟨a, n, c, L⟩, hk⟩ : ∃ X, K i.toNat = X := ⟨_, rfl⟩
    obtain ⟨⟨a2, n2, c2, L2⟩, hk2⟩ : ∃ X, K2 i.toNat = X := ⟨_, rfl⟩
    have hs := sK i.toNat (by omega)
    rw [hk, hk2] at hs
    obtain ⟨rfl, rfl⟩ : n = n2 ∧ L = L2 := hs
    have hn9 := hkn i.toNat (by omega)
    rw [hk] at hn9
    replace hn9 : n ≤ 140737488355328 := hn9
    obtain ⟨b8, o8, rfl, hr8⟩ := hK.some (i := i.toNat) (by omega)
    obtain ⟨b6, o6, rfl, hr6⟩ := hK2.some (i := i.toNat) (by omega)
    refine gp_quiet 3 rfl rfl rfl rfl rfl rfl (q_ixs Try.underlying23 Try.sizeOf38 rfl rfl (by omega) (by omega)) ?_
    refine gp_quiet 4 rfl rfl rfl rfl rfl rfl (q_loadc Try.isAgg38 rfl (lx_cell hr8 hk (by omega))) ?_
    refine gp_quiet 5 rfl rfl rfl rfl rfl rfl (q_fieldAddr fa_27_4 rfl) ?_
    refine gp_quiet 6 rfl rfl rfl rfl rfl rfl (q_ld Try.isAgg23 rfl rfl) ?_
    refine gp_quiet 7 rfl rfl rfl rfl rfl rfl (q_move rfl) ?_
    refine gp_quiet 8 rfl rfl rfl rfl rfl rfl (q_ixs Try.underlying23 Try.sizeOf38 rfl rfl (by omega) (by omega)) ?_
    refine gp_quiet 9 rfl rfl rfl rfl rfl rfl (q_loadc Try.isAgg38 rfl (lx_cell hr6 hk2 (by omega))) ?_
    refine gp_effa 10 [4, 9] [8, 7, 6, 5, 3, 2, 1, 0] rfl rfl rfl rfl rfl rfl rfl (does_call Try.call49 rfl (samewin_ok _ _ a a2 n c c2 L (hK.tr hk (by omega)).ex (hK2.tr hk2 (by omega)).ex hn9)) ?_
    rintro _ _ ⟨rfl, rfl⟩
    refine ⟨?_, ?_⟩
    · refine .cons rfl rfl rfl rfl rfl (q_ixs Try.underlying23 Try.sizeOf38 rfl rfl (by omega) (by omega)) ?_
      refine .cons rfl rfl rfl rfl rfl (q_move rfl) ?_
      refine .cons rfl rfl rfl rfl rfl (q_ld Try.isAgg23 rfl rfl) ?_
      refine .cons rfl rfl rfl rfl rfl (q_fieldAddr fa_27_4 rfl) ?_
      refine .cons rfl rfl rfl rfl rfl (q_ixs Try.underlying23 Try.sizeOf38 rfl rfl (by omega) (by omega)) ?_
      refine .cons rfl rfl rfl rfl rfl (q_move rfl) ?_
      refine .cons rfl rfl rfl rfl rfl (q_ld Try.isAgg23 rfl rfl) ?_
      refine .cons rfl rfl rfl rfl rfl (q_fieldAddr fa_27_4 rfl) ?_
      exact .nil
    refine gp_quiet 11 rfl rfl rfl rfl rfl rfl (q_not rfl) ?_
    refine gp_end rfl rfl ?_
    first | refine g_cond_f rfl ?_ | refine g_cond_f (congrArg (fun b => some (Value.bool b)) (decide_eq_false hbr)) ?_
    refine g_skip ?_
    refine g_inBlock ?_
    refine g_region ?_
    first | refine l_add rfl rfl rfl (w_i64 (by omega) (by omega)) ?_ | refine l_addw rfl rfl rfl ?_
    refine l_move rfl rfl ?_
    refine l_nil ?_
    exact g_againi (ih (i + 1) (by omega) (by omega)) (.cons rfl (.cons rfl (.cons rfl (.cons rfl (.nil)))))
  intro hbr
  have hbr := of_decide_eq_false hbr
  refine g_exit rfl ?_
  refine g_seq ?_
  refine g_seq ?_
  refine g_region ?_
  refine l_fieldAddr rfl fa_27_5 rfl ?_
  refine l_ld rfl Try.isAgg24 rfl rfl ?_
  refine l_len rfl Try.underlying24 rfl ?_
  refine l_move rfl rfl ?_
  refine l_nil ?_
  refine g_block ?_
  refine g_loopc (X := Int) [(2, _), (3, _), (80, _)] (.cons rfl (.cons rfl (.cons rfl (.nil)))) (fun j => 0 ≤ j ∧ j ≤ pn) (fun j => (pn - j).toNat) (fun j => [(81, .int .i64 j)]) (0) (by omega) (.cons rfl .nil) ?_
  rintro j ⟨j0, j1⟩ ihj
  dsimp only [List.cons_append, List.nil_append] at ihj ⊢
  refine g_seq ?_
  refine g_region ?_
  refine l_lss rfl rfl rfl ?_
  refine l_nil ?_
  refine g_seq ?_
  refine g_cond rfl ?_ ?_
  · intro hbr
    have hbr := of_decide_eq_true hbr
    refine g_skip ?_
    refine g_seq ?_
    refine g_block ?_
    refine g_seq ?_
    refine g_region ?_
    refine l_move rfl rfl ?_
    refine l_assign rfl rfl ?_
    refine l_nil ?_
    refine g_seq ?_
    refine gp_start mo (by kernel_rfl) (by kernel_rfl) ?_
    refine gp_quiet 0 rfl rfl rfl rfl rfl rfl (q_fieldAddr fa_27_5 rfl) ?_
    refine gp_quiet 1 rfl rfl rfl rfl rfl rfl (q_ld Try.isAgg24 rfl rfl) ?_
    refine gp_quiet 2 rfl rfl rfl rfl rfl rfl (q_move rfl) ?_
    obtain ⟨⟨nm, e1, e2, e3, e4, e5, ra, rn, rc, R, qa, qn, qc, Q⟩, hp⟩ : ∃ X, P j.toNat = X := ⟨_, rfl⟩
    obtain ⟨⟨nm2, f1, f2, f3, f4, f5, ra2, rn2, rc2, R2, qa2, qn2, qc2, Q2⟩, hp2⟩ : ∃ X, P2 j.toNat = X := ⟨_, rfl⟩
    have hs := sP j.toNat (by omega)
    rw [hp, hp2] at hs
    obtain ⟨rfl, rfl, rfl, rfl, rfl, rfl, rfl, rfl, rfl, rfl⟩ : nm = nm2 ∧ e1 = f1 ∧ e2 = f2 ∧ e3 = f3 ∧ e4 = f4 ∧ e5 = f5 ∧ rn = rn2 ∧ R = R2 ∧ qn = qn2 ∧ Q = Q2 := hs
    have hn8 := hpk j.toNat (by omega)
    rw [hp] at hn8
    obtain ⟨hn8, hn7⟩ : rn ≤ 140737488355328 ∧ qn ≤ 140737488355328 := hn8
    obtain ⟨b8, o8, rfl, hr8⟩ := hP.some (i := j.toNat) (by omega)
    obtain ⟨b6, o6, rfl, hr6⟩ := hP2.some (i := j.toNat) (by omega)
    refine gp_quiet 3 rfl rfl rfl rfl rfl rfl (q_ixs Try.underlying24 Try.sizeOf69 rfl rfl (by omega) (by omega)) ?_
    refine gp_quiet 4 rfl rfl rfl rfl rfl rfl (q_loadr (l := [.string nm, .int .i64 e1, .int .i64 e2, .int .i64 e3, .int .i64 e4, .int .i64 e5, .slice ra rn rc, .slice qa qn qc]) Try.isAgg69 Try.sizeOf69 rfl rfl (px_row hr8 hp (by omega))) ?_
    refine gp_quiet 5 rfl rfl rfl rfl rfl rfl (q_fieldAddr fa_27_5 rfl) ?_
    refine gp_quiet 6 rfl rfl rfl rfl rfl rfl (q_ld Try.isAgg24 rfl rfl) ?_
    refine gp_quiet 7 rfl rfl rfl rfl rfl rfl (q_move rfl) ?_
    refine gp_quiet 8 rfl rfl rfl rfl rfl rfl (q_ixs Try.underlying24 Try.sizeOf69 rfl rfl (by omega) (by omega)) ?_
    refine gp_quiet 9 rfl rfl rfl rfl rfl rfl (q_loadr (l := [.string nm, .int .i64 e1, .int .i64 e2, .int .i64 e3, .int .i64 e4, .int .i64 e5, .slice ra2 rn rc2, .slice qa2 qn qc2]) Try.isAgg69 Try.sizeOf69 rfl rfl (px_row hr6 hp2 (by omega))) ?_
    refine gp_effa 10 [4, 9] [8, 7, 6, 5, 3, 2, 1, 0] rfl rfl rfl rfl rfl rfl rfl (does_call Try.call47 rfl (samepart_ok _ _ nm e1 e2 e3 e4 e5 ra ra2 qa qa2 rn rc rc2 qn qc qc2 R Q (hP.trR hp (by omega)).ex (hP2.trR hp2 (by omega)).ex (hP.trQ hp (by omega)).ex (hP2.trQ hp2 (by omega)).ex hn8 hn7)) ?_
    rintro _ _ ⟨rfl, rfl⟩
    refine ⟨?_, ?_⟩
    · refine .cons rfl rfl rfl rfl rfl (q_ixs Try.underlying24 Try.sizeOf69 rfl rfl (by omega) (by omega)) ?_
      refine .cons rfl rfl rfl rfl rfl (q_move rfl) ?_
      refine .cons rfl rfl rfl rfl rfl (q_ld Try.isAgg24 rfl rfl) ?_
      refine .cons rfl rfl rfl rfl rfl (q_fieldAddr fa_27_5 rfl) ?_
      refine .cons rfl rfl rfl rfl rfl (q_ixs Try.underlying24 Try.sizeOf69 rfl rfl (by omega) (by omega)) ?_
      refine .cons rfl rfl rfl rfl rfl (q_move rfl) ?_
      refine .cons rfl rfl rfl rfl rfl (q_ld Try.isAgg24 rfl rfl) ?_
      refine .cons rfl rfl rfl rfl rfl (q_fieldAddr fa_27_5 rfl) ?_
      exact .nil
    refine gp_quiet 11 rfl rfl rfl rfl rfl rfl (q_not rfl) ?_
    refine gp_end rfl rfl ?_
    first | refine g_cond_f rfl ?_ | refine g_cond_f (congrArg (fun b => some (Value.bool b)) (decide_eq_false hbr)) ?_
    refine g_skip ?_
    refine g_inBlock ?_
    refine g_region ?_
    first | refine l_add rfl rfl rfl (w_i64 (by omega) (by omega)) ?_ | refine l_addw rfl rfl rfl ?_
    refine l_move rfl rfl ?_
    refine l_nil ?_
    exact g_againi (ihj (j + 1) (by omega) (by omega)) (.cons rfl (.cons rfl (.cons rfl (.cons rfl (.nil)))))
  intro hbr
  have hbr := of_decide_eq_false hbr
  refine g_exit rfl ?_
  refine g_seq ?_
  refine g_seq ?_
  refine g_region ?_
  refine l_fieldAddr rfl fa_27_6 rfl ?_
  refine l_ld rfl Try.isAgg25 rfl rfl ?_
  refine l_len rfl Try.underlying25 rfl ?_
  refine l_move rfl rfl ?_
  refine l_nil ?_
  refine g_block ?_
  refine g_loopc (X := Int) [(2, _), (3, _), (99, _)] (.cons rfl (.cons rfl (.cons rfl (.nil)))) (fun k => 0 ≤ k ∧ k ≤ hn) (fun k => (hn - k).toNat) (fun k => [(100, .int .i64 k)]) (0) (by omega) (.cons rfl .nil) ?_
  rintro k ⟨k0, k1⟩ ihk
  dsimp only [List.cons_append, List.nil_append] at ihk ⊢
  refine g_seq ?_
  refine g_region ?_
  refine l_lss rfl rfl rfl ?_
  refine l_nil ?_
  refine g_seq ?_
  refine g_cond rfl ?_ ?_
  · intro hbr
    have hbr := of_decide_eq_true hbr
    refine g_skip ?_
    refine g_seq ?_
    refine g_block ?_
    refine g_seq ?_
    refine g_region ?_
    refine l_move rfl rfl ?_
    refine l_assign rfl rfl ?_
    refine l_nil ?_
    refine g_seq ?_
    refine gp_start mo (by kernel_rfl) (by kernel_rfl) ?_
    refine gp_quiet 0 rfl rfl rfl rfl rfl rfl (q_fieldAddr fa_27_6 rfl) ?_
    refine gp_quiet 1 rfl rfl rfl rfl rfl rfl (q_ld Try.isAgg25 rfl rfl) ?_
    refine gp_quiet 2 rfl rfl rfl rfl rfl rfl (q_move rfl) ?_
    obtain ⟨b9, o9, x9, rfl, hr9, hx9⟩ := hH.some (i := k.toNat) (by omega)
    obtain ⟨b7, o7, x7, rfl, hr7, hx7⟩ := hH2.some (i := k.toNat) (by omega)
    obtain rfl : x9 = x7 := some_eq hx9 hx7
    refine gp_quiet 3 rfl rfl rfl rfl rfl rfl (q_ixs Try.underlying25 Try.sizeOf82 rfl rfl (by omega) (by omega)) ?_
    refine gp_quiet 4 rfl rfl rfl rfl rfl rfl (q_loadr (l := winRow x9) Try.isAgg82 Try.sizeOf82 rfl rfl (tr_row wLen hr9 hx9)) ?_
    refine gp_quiet 5 rfl rfl rfl rfl rfl rfl (q_fieldAddr fa_27_6 rfl) ?_
    refine gp_quiet 6 rfl rfl rfl rfl rfl rfl (q_ld Try.isAgg25 rfl rfl) ?_
    refine gp_quiet 7 rfl rfl rfl rfl rfl rfl (q_move rfl) ?_
    refine gp_quiet 8 rfl rfl rfl rfl rfl rfl (q_ixs Try.underlying25 Try.sizeOf82 rfl rfl (by omega) (by omega)) ?_
    refine gp_quiet 9 rfl rfl rfl rfl rfl rfl (q_loadr (l := winRow x9) Try.isAgg82 Try.sizeOf82 rfl rfl (tr_row wLen hr7 hx7)) ?_
    refine gp_quiet 10 rfl rfl rfl rfl rfl rfl (q_bin rfl rfl (fun w => run_eqGuard_agg w _ _ _ _ _ _ Try.eqGuardType82) (fun w => same_h _ w)) ?_
    refine gp_end rfl rfl ?_
    first | refine g_cond_f rfl ?_ | refine g_cond_f (congrArg (fun b => some (Value.bool b)) (decide_eq_false hbr)) ?_
    refine g_skip ?_
    refine g_inBlock ?_
    refine g_region ?_
    first | refine l_add rfl rfl rfl (w_i64 (by omega) (by omega)) ?_ | refine l_addw rfl rfl rfl ?_
    refine l_move rfl rfl ?_
    refine l_nil ?_
    exact g_againi (ihk (k + 1) (by omega) (by omega)) (.cons rfl (.cons rfl (.cons rfl (.cons rfl (.nil)))))
  intro hbr
  have hbr := of_decide_eq_false hbr
  refine g_exit rfl ?_
  refine g_seq ?_
  refine g_region ?_
  refine l_assign rfl rfl ?_
  refine l_nil ?_
  refine g_ret Try.func45 rfl (.tmp rfl .nil) ?_
  exact Gives.mki ⟨rfl, rfl⟩
theorem rm_at {α : Type} {mk : Nat → α} {L : List α} {n k i : Nat} {x : α} (hL : L.length = n) (hx : (rm mk L k)[i]? = some x) (hi : i < n + k) : (i < n ∧ L[i]? = some x) ∨ (n ≤ i ∧ x = mk (i - n)) := by
  by_cases h : i < n
  · rw [rm_lt (by omega)] at hx
    exact .inl ⟨h, hx⟩
  · rw [rm_ge (by omega) (by omega)] at hx
    exact .inr ⟨by omega, by rw [← Option.some.inj hx, hL]⟩
theorem mkW {n i : Nat} {x : Win} (h : n ≤ i) (hx : x = WMk (i - n)) : x = (-70 - (i : Int) + n, 0, 0) := by
  rw [hx, WMk]; congr 1; omega
theorem mkR {n i : Nat} {x : Reg} (h : n ≤ i) (hx : x = RMk (i - n)) : x = (-70 - (i : Int) + n, 0, 0, 0) := by
  rw [hx, RMk]; congr 1; omega
theorem mkP {n i : Nat} {x : Prt} (h : n ≤ i) (hx : x = PMk (i - n)) : x = (-70 - (i : Int) + n, false) := by
  rw [hx, PMk]; congr 1; omega
theorem keptpart_ok (w0 : World) (F : List Atom) (nm : ByteArray) (e1 e2 e3 e4 e5 : Int) (ra ra2 qa qa2 : Option Addr) (rn rc rc2 qn qc qc2 : Nat) (R : List Reg) (Q : List Prt) (h1 : TR spanRow w0 F ra2 (rn + 12) (rm RMk R 12)) (h2 : TR spanRow w0 F ra rn R) (h3 : TR prtRow w0 F qa2 (qn + 12) (rm PMk Q 12)) (h4 : TR prtRow w0 F qa qn Q) (hn : rn ≤ 2147483647) (hn2 : qn ≤ 2147483647) :
    CallK Try.prog 46 [.slice ra2 (rn + 12) rc2, .slice qa2 (qn + 12) qc2, .agg [.string nm, .int .i64 e1, .int .i64 e2, .int .i64 e3, .int .i64 e4, .int .i64 e5, .slice ra rn rc, .slice qa qn qc].toArray] w0 (F) (Gives w0 fun v F2 => v = .bool true ∧ F2 = F) := by
  refine c_enter Try.func46 rfl rfl rfl ?_
  refine g_seq ?_
  refine g_region ?_
  refine l_boxs rfl rfl ?_; intro b5
  refine l_assign rfl rfl ?_
  refine l_nil ?_
  refine g_seq ?_
  refine g_seq ?_
  refine g_region ?_
  refine l_move rfl rfl ?_
  refine l_len rfl Try.underlying66 rfl ?_
  refine l_move rfl rfl ?_
  refine l_nil ?_
  refine g_block ?_
  refine g_loopc (X := Int) [(0, _), (1, _), (5, _), (12, _)] (.cons rfl (.cons rfl (.cons rfl (.cons rfl (.nil))))) (fun i => 0 ≤ i ∧ i ≤ (rn + 12 : Nat)) (fun i => ((rn + 12 : Nat) - i).toNat) (fun i => [(13, .int .i64 i)]) (0) (by omega) (.cons rfl .nil) ?_
  rintro i ⟨i0, i1⟩ ih
  dsimp only [List.cons_append, List.nil_append] at ih ⊢
  refine g_seq ?_
  refine g_region ?_
  refine l_lss rfl rfl rfl ?_
  refine l_nil ?_
  refine g_seq ?_
  refine g_cond rfl ?_ ?_
  · intro hbr
    have hbr := of_decide_eq_true hbr
    refine g_skip ?_
    refine g_seq ?_
    refine g_block ?_
    refine g_seq ?_
    refine g_region ?_
    refine l_move rfl rfl ?_
    refine l_assign rfl rfl ?_
    refine l_nil ?_
    refine g_seq ?_
    refine g_region ?_
    have hit : (i.toNat : Int) = i := Int.toNat_of_nonneg i0
    refine l_move rfl rfl ?_
    first | refine l_sub_ rfl rfl rfl (w_i64 (by omega) (by omega)) ?_ | refine l_subw rfl rfl rfl ?_
    refine l_fieldAddr rfl fa_69_6 rfl ?_
    refine l_ld rfl Try.isAgg66 rfl rfl ?_
    refine l_len rfl Try.underlying66 rfl ?_
    first | refine l_add rfl rfl rfl (w_i64 (by omega) (by omega)) ?_ | refine l_addw rfl rfl rfl ?_
    refine l_build rfl rfl (fun w => bd_78_0 _ w) ?_
    refine l_allocs rfl Try.zeroValue78 ?_; intro b8
    refine l_sts Try.sizeOf78 rfl rfl rfl rfl rfl ?_
    refine l_nil ?_
    refine g_seq ?_
    refine g_seq ?_
    refine g_region ?_
    refine l_move rfl rfl ?_
    refine l_fieldAddr rfl fa_69_6 rfl ?_
    refine l_ld rfl Try.isAgg66 rfl rfl ?_
    refine l_len rfl Try.underlying66 rfl ?_
    refine l_lss rfl rfl rfl ?_
    refine l_nil ?_
    refine g_cond rfl ?_ ?_
    · intro hbr
      have hbr := of_decide_eq_true hbr
      refine g_region ?_
      obtain ⟨b7, o7, x7, rfl, hr7, hx7⟩ := h2.some (i := i.toNat) (by omega)
      refine l_fieldAddr rfl fa_69_6 rfl ?_
      refine l_ld rfl Try.isAgg66 rfl rfl ?_
      refine l_move rfl rfl ?_
      refine l_ixs rfl Try.underlying66 Try.sizeOf78 rfl rfl (by omega) (by omega) ?_
      refine l_loadr (l := spanRow _) rfl Try.isAgg78 Try.sizeOf78 rfl rfl (tr_row rLen hr7 hx7) ?_
      refine l_sts Try.sizeOf78 rfl rfl rfl rfl rfl ?_
      refine l_nil ?_
      refine g_seq ?_
      refine gp_start mo (by kernel_rfl) (by kernel_rfl) ?_
      refine gp_quiet 0 rfl rfl rfl rfl rfl rfl (q_move rfl) ?_
      refine gp_quiet 1 rfl rfl rfl rfl rfl rfl (q_move rfl) ?_
      obtain ⟨b9, o9, x9, rfl, hr9, hx9⟩ := h1.some (i := i.toNat) (by omega)
      obtain rfl : x9 = x7 := (rm_at (h2).1 hx9 (by omega)).elim (fun h => some_eq h.2 hx7) (fun h => absurd h.1 (by omega))
      refine gp_quiet 2 rfl rfl rfl rfl rfl rfl (q_ixs Try.underlying66 Try.sizeOf78 rfl rfl (by omega) (by omega)) ?_
      refine gp_quiet 3 rfl rfl rfl rfl rfl rfl (q_loadr (l := spanRow _) Try.isAgg78 Try.sizeOf78 rfl rfl (tr_row rLen hr9 hx9)) ?_
      refine gp_quiet 4 rfl rfl rfl rfl rfl rfl (q_lds Try.isAgg78 Try.sizeOf78 rfl rfl) ?_
      refine gp_quiet 5 rfl rfl rfl rfl rfl rfl (q_bin rfl rfl (fun w => run_eqGuard_agg w _ _ _ _ _ _ Try.eqGuardType78) (fun w => same_r _ w)) ?_
      refine gp_end rfl rfl ?_
      first | refine g_cond_f rfl ?_ | refine g_cond_f (congrArg (fun b => some (Value.bool b)) (decide_eq_false hbr)) ?_
      refine g_skip ?_
      refine g_inBlock ?_
      refine g_region ?_
      first | refine l_add rfl rfl rfl (w_i64 (by omega) (by omega)) ?_ | refine l_addw rfl rfl rfl ?_
      refine l_move rfl rfl ?_
      refine l_nil ?_
      exact g_againi (ih (i + 1) (by omega) (by omega)) (.cons rfl (.cons rfl (.cons rfl (.cons rfl (.cons rfl (.nil))))))
    intro hbr
    have hbr := of_decide_eq_false hbr
    refine g_skip ?_
    refine g_seq ?_
    refine gp_start mo (by kernel_rfl) (by kernel_rfl) ?_
    refine gp_quiet 0 rfl rfl rfl rfl rfl rfl (q_move rfl) ?_
    refine gp_quiet 1 rfl rfl rfl rfl rfl rfl (q_move rfl) ?_
    obtain ⟨b9, o9, x9, rfl, hr9, hx9⟩ := h1.some (i := i.toNat) (by omega)
    have hz9 := mkR (n := rn) (i := i.toNat) (by omega) ((rm_at (h2).1 hx9 (by omega)).elim (fun h => absurd h.1 (by omega)) (fun h => h.2))
    rw [hit] at hz9
    obtain rfl := hz9
    refine gp_quiet 2 rfl rfl rfl rfl rfl rfl (q_ixs Try.underlying66 Try.sizeOf78 rfl rfl (by omega) (by omega)) ?_
    refine gp_quiet 3 rfl rfl rfl rfl rfl rfl (q_loadr (l := spanRow _) Try.isAgg78 Try.sizeOf78 rfl rfl (tr_row rLen hr9 hx9)) ?_
    refine gp_quiet 4 rfl rfl rfl rfl rfl rfl (q_lds Try.isAgg78 Try.sizeOf78 rfl rfl) ?_
    refine gp_quiet 5 rfl rfl rfl rfl rfl rfl (q_bin rfl rfl (fun w => run_eqGuard_agg w _ _ _ _ _ _ Try.eqGuardType78) (fun w => same_r _ w)) ?_
    refine gp_end rfl rfl ?_
    first | refine g_cond_f rfl ?_ | refine g_cond_f (congrArg (fun b => some (Value.bool b)) (decide_eq_false hbr)) ?_
    refine g_skip ?_
    refine g_inBlock ?_
    refine g_region ?_
    first | refine l_add rfl rfl rfl (w_i64 (by omega) (by omega)) ?_ | refine l_addw rfl rfl rfl ?_
    refine l_move rfl rfl ?_
    refine l_nil ?_
    exact g_againi (ih (i + 1) (by omega) (by omega)) (.cons rfl (.cons rfl (.cons rfl (.cons rfl (.cons rfl (.nil))))))
  intro hbr
  have hbr := of_decide_eq_false hbr
  refine g_exit rfl ?_
  refine g_seq ?_
  refine g_seq ?_
  refine g_region ?_
  refine l_move rfl rfl ?_
  refine l_len rfl Try.underlying67 rfl ?_
  refine l_move rfl rfl ?_
  refine l_nil ?_
  refine g_block ?_
  refine g_loopc (X := Int) [(1, _), (5, _), (41, _)] (.cons rfl (.cons rfl (.cons rfl (.nil)))) (fun j => 0 ≤ j ∧ j ≤ (qn + 12 : Nat)) (fun j => ((qn + 12 : Nat) - j).toNat) (fun j => [(42, .int .i64 j)]) (0) (by omega) (.cons rfl .nil) ?_
  rintro j ⟨j0, j1⟩ ihj
  dsimp only [List.cons_append, List.nil_append] at ihj ⊢
  refine g_seq ?_
  refine g_region ?_
  refine l_lss rfl rfl rfl ?_
  refine l_nil ?_
  refine g_seq ?_
  refine g_cond rfl ?_ ?_
  · intro hbr
    have hbr := of_decide_eq_true hbr
    refine g_skip ?_
    refine g_seq ?_
    refine g_block ?_
    refine g_seq ?_
    refine g_region ?_
    refine l_move rfl rfl ?_
    refine l_assign rfl rfl ?_
    refine l_nil ?_
    refine g_seq ?_
    refine g_region ?_
    have hit : (j.toNat : Int) = j := Int.toNat_of_nonneg j0
    refine l_move rfl rfl ?_
    first | refine l_sub_ rfl rfl rfl (w_i64 (by omega) (by omega)) ?_ | refine l_subw rfl rfl rfl ?_
    refine l_fieldAddr rfl fa_69_7 rfl ?_
    refine l_ld rfl Try.isAgg67 rfl rfl ?_
    refine l_len rfl Try.underlying67 rfl ?_
    first | refine l_add rfl rfl rfl (w_i64 (by omega) (by omega)) ?_ | refine l_addw rfl rfl rfl ?_
    refine l_build rfl rfl (fun w => bd_80_0 _ w) ?_
    refine l_allocs rfl Try.zeroValue80 ?_; intro b10
    refine l_sts Try.sizeOf80 rfl rfl rfl rfl rfl ?_
    refine l_nil ?_
    refine g_seq ?_
    refine g_seq ?_
    refine g_region ?_
    refine l_move rfl rfl ?_
    refine l_fieldAddr rfl fa_69_7 rfl ?_
    refine l_ld rfl Try.isAgg67 rfl rfl ?_
    refine l_len rfl Try.underlying67 rfl ?_
    refine l_lss rfl rfl rfl ?_
    refine l_nil ?_
    refine g_cond rfl ?_ ?_
    · intro hbr
      have hbr := of_decide_eq_true hbr
      refine g_region ?_
      obtain ⟨b6, o6, x6, rfl, hr6, hx6⟩ := h4.some (i := j.toNat) (by omega)
      refine l_fieldAddr rfl fa_69_7 rfl ?_
      refine l_ld rfl Try.isAgg67 rfl rfl ?_
      refine l_move rfl rfl ?_
      refine l_ixs rfl Try.underlying67 Try.sizeOf80 rfl rfl (by omega) (by omega) ?_
      refine l_loadr (l := prtRow _) rfl Try.isAgg80 Try.sizeOf80 rfl rfl (tr_row pLen hr6 hx6) ?_
      refine l_sts Try.sizeOf80 rfl rfl rfl rfl rfl ?_
      refine l_nil ?_
      refine g_seq ?_
      refine gp_start mo (by kernel_rfl) (by kernel_rfl) ?_
      refine gp_quiet 0 rfl rfl rfl rfl rfl rfl (q_move rfl) ?_
      refine gp_quiet 1 rfl rfl rfl rfl rfl rfl (q_move rfl) ?_
      obtain ⟨b5, o5, x5, rfl, hr5, hx5⟩ := h3.some (i := j.toNat) (by omega)
      obtain rfl : x5 = x6 := (rm_at (h4).1 hx5 (by omega)).elim (fun h => some_eq h.2 hx6) (fun h => absurd h.1 (by omega))
      refine gp_quiet 2 rfl rfl rfl rfl rfl rfl (q_ixs Try.underlying67 Try.sizeOf80 rfl rfl (by omega) (by omega)) ?_
      refine gp_quiet 3 rfl rfl rfl rfl rfl rfl (q_loadr (l := prtRow _) Try.isAgg80 Try.sizeOf80 rfl rfl (tr_row pLen hr5 hx5)) ?_
      refine gp_quiet 4 rfl rfl rfl rfl rfl rfl (q_lds Try.isAgg80 Try.sizeOf80 rfl rfl) ?_
      refine gp_quiet 5 rfl rfl rfl rfl rfl rfl (q_bin rfl rfl (fun w => run_eqGuard_agg w _ _ _ _ _ _ Try.eqGuardType80) (fun w => same_p _ w)) ?_
      refine gp_end rfl rfl ?_
      first | refine g_cond_f rfl ?_ | refine g_cond_f (congrArg (fun b => some (Value.bool b)) (decide_eq_false hbr)) ?_
      refine g_skip ?_
      refine g_inBlock ?_
      refine g_region ?_
      first | refine l_add rfl rfl rfl (w_i64 (by omega) (by omega)) ?_ | refine l_addw rfl rfl rfl ?_
      refine l_move rfl rfl ?_
      refine l_nil ?_
      exact g_againi (ihj (j + 1) (by omega) (by omega)) (.cons rfl (.cons rfl (.cons rfl (.cons rfl (.nil)))))
    intro hbr
    have hbr := of_decide_eq_false hbr
    refine g_skip ?_
    refine g_seq ?_
    refine gp_start mo (by kernel_rfl) (by kernel_rfl) ?_
    refine gp_quiet 0 rfl rfl rfl rfl rfl rfl (q_move rfl) ?_
    refine gp_quiet 1 rfl rfl rfl rfl rfl rfl (q_move rfl) ?_
    obtain ⟨b5, o5, x5, rfl, hr5, hx5⟩ := h3.some (i := j.toNat) (by omega)
    have hz5 := mkP (n := qn) (i := j.toNat) (by omega) ((rm_at (h4).1 hx5 (by omega)).elim (fun h => absurd h.1 (by omega)) (fun h => h.2))
    rw [hit] at hz5
    obtain rfl := hz5
    refine gp_quiet 2 rfl rfl rfl rfl rfl rfl (q_ixs Try.underlying67 Try.sizeOf80 rfl rfl (by omega) (by omega)) ?_
    refine gp_quiet 3 rfl rfl rfl rfl rfl rfl (q_loadr (l := prtRow _) Try.isAgg80 Try.sizeOf80 rfl rfl (tr_row pLen hr5 hx5)) ?_
    refine gp_quiet 4 rfl rfl rfl rfl rfl rfl (q_lds Try.isAgg80 Try.sizeOf80 rfl rfl) ?_
    refine gp_quiet 5 rfl rfl rfl rfl rfl rfl (q_bin rfl rfl (fun w => run_eqGuard_agg w _ _ _ _ _ _ Try.eqGuardType80) (fun w => same_p _ w)) ?_
    refine gp_end rfl rfl ?_
    first | refine g_cond_f rfl ?_ | refine g_cond_f (congrArg (fun b => some (Value.bool b)) (decide_eq_false hbr)) ?_
    refine g_skip ?_
    refine g_inBlock ?_
    refine g_region ?_
    first | refine l_add rfl rfl rfl (w_i64 (by omega) (by omega)) ?_ | refine l_addw rfl rfl rfl ?_
    refine l_move rfl rfl ?_
    refine l_nil ?_
    exact g_againi (ihj (j + 1) (by omega) (by omega)) (.cons rfl (.cons rfl (.cons rfl (.cons rfl (.nil)))))
  intro hbr
  have hbr := of_decide_eq_false hbr
  refine g_exit rfl ?_
  refine g_seq ?_
  refine g_region ?_
  refine l_assign rfl rfl ?_
  refine l_nil ?_
  refine g_ret Try.func46 rfl (.tmp rfl .nil) ?_
  exact Gives.mki ⟨rfl, rfl⟩
theorem mkW2 {n : Nat} {k : Int} (k0 : 0 ≤ k) {x : Win} (hx : x = WMk (((n : Int) + k).toNat - n)) : x = (-70 - k, 0, 0) := by
  rw [hx, WMk]; congr 1; omega
def sppart (k : Int) : PartR := ⟨⟨#[]⟩, -70 - k, 0, 0, 0, 0, none, 0, 0, [], none, 0, 0, []⟩
def SRm {α : Type} (mk : Nat → α) (n : Nat) (X : Nat → LX α) (m : Nat → Nat) (L : Nat → List α) : Prop := ∀ i, i < n → (X i).n = m i + 12 ∧ (X i).L = rm mk (L i) 12
set_option maxHeartbeats 2000000 in
theorem rkept_ok (w0 : World) (F : List Atom) (fr mj kr rr : Int) (ca pa ha ca2 pa2 ha2 : Option Addr) (cn cc pn pc hn hc cc2 pc2 hc2 : Nat) (K K2 : Nat → LX Win) (P P2 : Nat → PartR) (H : List Win) (hK : LLR winRow w0 F ca cn K) (hK2 : LLR winRow w0 F ca2 cn K2) (hP : PXR w0 F pa pn P) (hP2 : PXR w0 F pa2 pn P2) (hH : TR winRow w0 F ha hn H) (hH2 : TR winRow w0 F ha2 hn H) (sK : SK cn K K2) (sP : SPa pn P P2) (aC aW aQ aR aP aH : Option Addr) (cC cW cQ cR cP cH : Nat) (KC KW : Nat → LX Win) (XR : Nat → LX Reg) (XP : Nat → LX Prt) (PQ : Nat → PartR) (hW : LLR winRow w0 F aW cn KW) (sW : SRm WMk cn KW (fun i => (K2 i).n) fun i => (K2 i).L) (hC : LLR winRow w0 F aC (cn + 12) KC) (sC : ∀ i, cn ≤ i → i < cn + 12 → (KC i).n = 1 ∧ (KC i).L = [WMk (i - cn)]) (hXR : LLR spanRow w0 F aR pn XR) (sR : SRm RMk pn XR (fun i => (P2 i).rn) fun i => (P2 i).R) (hXP : LLR prtRow w0 F aP pn XP) (sX : SRm PMk pn XP (fun i => (P2 i).qn) fun i => (P2 i).Q) (hPQ : PXR w0 F aQ (pn + 12) PQ) (sQ : ∀ i, pn ≤ i → i < pn + 12 → PQ i = sppart ((i : Int) - pn)) (hHH : TR winRow w0 F aH (hn + 12) (rm WMk H 12)) (hcn : cn ≤ 2147483647) (hpn : pn ≤ 2147483647) (hhn : hn ≤ 2147483647) (hkn : ∀ i, i < cn → (K2 i).n ≤ 2147483647) (hpk : ∀ i, i < pn → (P2 i).rn ≤ 2147483647 ∧ (P2 i).qn ≤ 2147483647) :
    CallK Try.prog 33 [.agg [Value.int .i64 fr, .int .i64 mj, .int .i64 kr, .int .i64 rr, .slice ca cn cc, .slice pa pn pc, .slice ha hn hc].toArray, .agg [Value.slice aC (cn + 12) cC, .slice aW cn cW, .slice aQ (pn + 12) cQ, .slice aR pn cR, .slice aP pn cP, .slice aH (hn + 12) cH].toArray, .agg [Value.int .i64 fr, .int .i64 mj, .int .i64 kr, .int .i64 rr, .slice ca2 cn cc2, .slice pa2 pn pc2, .slice ha2 hn hc2].toArray] w0 (F) (Gives w0 fun v F2 => v = .bool true ∧ F2 = F) := by
  refine c_enter Try.func33 rfl rfl rfl ?_
  refine g_seq ?_
  refine g_region ?_
  refine l_boxs rfl rfl ?_; intro b3
  refine l_boxs rfl rfl ?_; intro b4
  refine l_boxs rfl rfl ?_; intro b5
  refine l_assign rfl rfl ?_
  refine l_nil ?_
  refine g_seq ?_
  refine g_seq ?_
  refine g_region ?_
  refine l_lds rfl Try.isAgg27 Try.sizeOf27 rfl rfl ?_
  refine l_lds rfl Try.isAgg27 Try.sizeOf27 rfl rfl ?_
  refine l_call rfl Try.call45 rfl (rsame_ok _ _ fr mj kr rr ca pa ha ca2 pa2 ha2 cn cc pn pc hn hc cc2 pc2 hc2 K K2 P P2 H hK.ex hK2.ex hP.ex hP2.ex hH.ex hH2.ex sK sP (by omega) (by omega) (by omega) (fun i hi => by have := hkn i hi; have := (sK i hi).1; omega) (fun i hi => by have := hpk i hi; have h1 := sP i hi; unfold PSame at h1; omega)) ?_; rintro _ _ ⟨rfl, rfl⟩
  refine l_not rfl rfl ?_
  refine l_nil ?_
  first | refine g_cond_f rfl ?_ | refine g_cond_f (congrArg (fun b => some (Value.bool b)) (decide_eq_false hbr)) ?_
  refine g_skip ?_
  refine g_seq ?_
  refine g_seq ?_
  refine g_region ?_
  refine l_fieldAddr rfl fa_27_4 rfl ?_
  refine l_ld rfl Try.isAgg23 rfl rfl ?_
  refine l_len rfl Try.underlying23 rfl ?_
  refine l_move rfl rfl ?_
  refine l_nil ?_
  refine g_block ?_
  refine g_loopc (X := Int) [(4, _), (5, _), (20, _)] (.cons rfl (.cons rfl (.cons rfl (.nil)))) (fun i => 0 ≤ i ∧ i ≤ cn) (fun i => (cn - i).toNat) (fun i => [(21, .int .i64 i)]) (0) (by omega) (.cons rfl .nil) ?_
  rintro i ⟨i0, i1⟩ ih
  dsimp only [List.cons_append, List.nil_append] at ih ⊢
  refine g_seq ?_
  refine g_region ?_
  refine l_lss rfl rfl rfl ?_
  refine l_nil ?_
  refine g_seq ?_
  refine g_cond rfl ?_ ?_
  · intro hbr
    have hbr := of_decide_eq_true hbr
    refine g_skip ?_
    refine g_seq ?_
    refine g_block ?_
    refine g_seq ?_
    refine g_region ?_
    refine l_move rfl rfl ?_
    refine l_assign rfl rfl ?_
    refine l_nil ?_
    refine g_seq ?_
    refine g_region ?_
    obtain ⟨⟨a2, n, c2, L⟩, hk2⟩ : ∃ X, K2 i.toNat = X := ⟨_, rfl⟩
    obtain ⟨⟨aw, nw, cw, Lw⟩, hkw⟩ : ∃ X, KW i.toNat = X := ⟨_, rfl⟩
    have hs := sW i.toNat (by omega)
    simp only [hkw, hk2] at hs
    obtain ⟨rfl, rfl⟩ : nw = n + 12 ∧ Lw = rm WMk L 12 := hs
    have hn9 := hkn i.toNat (by omega)
    rw [hk2] at hn9
    replace hn9 : n ≤ 2147483647 := hn9
    refine l_fieldAddr rfl fa_27_4 rfl ?_
    refine l_ld rfl Try.isAgg23 rfl rfl ?_
    refine l_move rfl rfl ?_
    obtain ⟨b8, o8, rfl, hr8⟩ := hK2.some (i := i.toNat) (by omega)
    refine l_ixs rfl Try.underlying23 Try.sizeOf38 rfl rfl (by omega) (by omega) ?_
    refine l_loadc rfl Try.isAgg38 rfl (lx_cell hr8 hk2 (by omega)) ?_
    refine l_len rfl Try.underlying38 rfl ?_
    refine l_assign rfl rfl ?_
    refine l_nil ?_
    refine g_seq ?_
    refine g_region ?_
    refine l_fieldAddr rfl fa_60_1 rfl ?_
    refine l_ld rfl Try.isAgg23 rfl rfl ?_
    refine l_move rfl rfl ?_
    obtain ⟨b6, o6, rfl, hr6⟩ := hW.some (i := i.toNat) (by omega)
    refine l_ixs rfl Try.underlying23 Try.sizeOf38 rfl rfl (by omega) (by omega) ?_
    refine l_loadc rfl Try.isAgg38 rfl (lx_cell hr6 hkw (by omega)) ?_
    refine l_len rfl Try.underlying38 rfl ?_
    refine l_move rfl rfl ?_
    refine l_nil ?_
    refine g_block ?_
    refine g_loopc (X := Int) [(4, _), (5, _), (7, _), (8, _), (20, _), (21, _), (22, _), (23, _), (24, _), (25, _), (26, _), (27, _), (28, _), (29, _), (30, _), (31, _), (32, _), (33, _), (34, _), (35, _)] (.cons rfl (.cons rfl (.cons rfl (.cons rfl (.cons rfl (.cons rfl (.cons rfl (.cons rfl (.cons rfl (.cons rfl (.cons rfl (.cons rfl (.cons rfl (.cons rfl (.cons rfl (.cons rfl (.cons rfl (.cons rfl (.cons rfl (.cons rfl (.nil))))))))))))))))))))) (fun k => 0 ≤ k ∧ k ≤ (n + 12 : Nat)) (fun k => ((n + 12 : Nat) - k).toNat) (fun k => [(36, .int .i64 k)]) (0) (by omega) (.cons rfl .nil) ?_
    rintro k ⟨k0, k1⟩ ihk
    dsimp only [List.cons_append, List.nil_append] at ihk ⊢
    refine g_seq ?_
    refine g_region ?_
    refine l_lss rfl rfl rfl ?_
    refine l_nil ?_
    refine g_seq ?_
    refine g_cond rfl ?_ ?_
    · intro hbr
      have hbr := of_decide_eq_true hbr
      refine g_skip ?_
      refine g_seq ?_
      refine g_block ?_
      refine g_seq ?_
      refine g_region ?_
      refine l_move rfl rfl ?_
      refine l_assign rfl rfl ?_
      refine l_nil ?_
      refine g_seq ?_
      refine g_seq ?_
      refine gp_start mo (by kernel_rfl) (by kernel_rfl) ?_
      have hit : (k.toNat : Int) = k := Int.toNat_of_nonneg k0
      refine gp_quiet 0 rfl rfl rfl rfl rfl rfl (q_move rfl) ?_
      refine gp_quiet 1 rfl rfl rfl rfl rfl rfl (q_move rfl) ?_
      refine gp_quiet 2 rfl rfl rfl rfl rfl rfl (q_lss rfl rfl) ?_
      refine gp_quiet 3 rfl rfl rfl rfl rfl rfl (q_move rfl) ?_
      refine gp_split 42 rfl ?_ ?_
      · intro hbr
        have hg42 := hbr
        have hbr := of_decide_eq_true hbr
        refine gp_quietg 4 rfl rfl rfl rfl rfl rfl (.yes rfl rfl (q_fieldAddr fa_60_1 rfl)) ?_
        refine gp_quietg 5 rfl rfl rfl rfl rfl rfl (.yes rfl rfl (q_ld Try.isAgg23 rfl rfl)) ?_
        refine gp_quietg 6 rfl rfl rfl rfl rfl rfl (.yes rfl rfl (q_move rfl)) ?_
        obtain ⟨b9, o9, x9, rfl, hr9, hx9⟩ := (hW.tr hkw (by omega)).some (i := k.toNat) (by omega)
        obtain ⟨b7, o7, x7, rfl, hr7, hx7⟩ := (hK2.tr hk2 (by omega)).some (i := k.toNat) (by omega)
        obtain rfl : x9 = x7 := (rm_at (hK2.tr hk2 (by omega)).1 hx9 (by omega)).elim (fun h => some_eq h.2 hx7) (fun h => absurd h.1 (by omega))
        refine gp_quietg 7 rfl rfl rfl rfl rfl rfl (.yes rfl rfl (q_ixs Try.underlying23 Try.sizeOf38 rfl rfl (by omega) (by omega))) ?_
        refine gp_quietg 8 rfl rfl rfl rfl rfl rfl (.yes rfl rfl (q_loadc Try.isAgg38 rfl (lx_cell hr6 hkw (by omega)))) ?_
        refine gp_quietg 9 rfl rfl rfl rfl rfl rfl (.yes rfl rfl (q_move rfl)) ?_
        refine gp_quietg 10 rfl rfl rfl rfl rfl rfl (.yes rfl rfl (q_ixs Try.underlying38 Try.sizeOf40 rfl rfl (by omega) (by omega))) ?_
        refine gp_quietg 11 rfl rfl rfl rfl rfl rfl (.yes rfl rfl (q_loadr (l := winRow _) Try.isAgg40 Try.sizeOf40 rfl rfl (tr_row wLen hr9 hx9))) ?_
        refine gp_quietg 12 rfl rfl rfl rfl rfl rfl (.yes rfl rfl (q_fieldAddr fa_27_4 rfl)) ?_
        refine gp_quietg 13 rfl rfl rfl rfl rfl rfl (.yes rfl rfl (q_ld Try.isAgg23 rfl rfl)) ?_
        refine gp_quietg 14 rfl rfl rfl rfl rfl rfl (.yes rfl rfl (q_move rfl)) ?_
        refine gp_quietg 15 rfl rfl rfl rfl rfl rfl (.yes rfl rfl (q_ixs Try.underlying23 Try.sizeOf38 rfl rfl (by omega) (by omega))) ?_
        refine gp_quietg 16 rfl rfl rfl rfl rfl rfl (.yes rfl rfl (q_loadc Try.isAgg38 rfl (lx_cell hr8 hk2 (by omega)))) ?_
        refine gp_quietg 17 rfl rfl rfl rfl rfl rfl (.yes rfl rfl (q_move rfl)) ?_
        refine gp_quietg 18 rfl rfl rfl rfl rfl rfl (.yes rfl rfl (q_ixs Try.underlying38 Try.sizeOf40 rfl rfl (by omega) (by omega))) ?_
        refine gp_quietg 19 rfl rfl rfl rfl rfl rfl (.yes rfl rfl (q_loadr (l := winRow _) Try.isAgg40 Try.sizeOf40 rfl rfl (tr_row wLen hr7 hx7))) ?_
        refine gp_quietg 20 rfl rfl rfl rfl rfl rfl (.yes rfl rfl (q_bin rfl rfl (fun w => run_eqGuard_agg w _ _ _ _ _ _ Try.eqGuardType40) (fun w => same_w _ w))) ?_
        refine gp_quiet 21 rfl rfl rfl rfl rfl rfl (q_pick_t rfl rfl) ?_
        refine gp_end rfl rfl ?_
        first | refine g_cond_f rfl ?_ | refine g_cond_f (congrArg (fun b => some (Value.bool b)) (decide_eq_false hbr)) ?_
        refine g_skip ?_
        refine g_seq ?_
        refine g_region ?_
        refine l_move rfl rfl ?_
        refine l_move rfl rfl ?_
        refine l_geq rfl rfl rfl ?_
        refine l_move rfl rfl ?_
        refine l_split 64 rfl ?_ ?_
        · intro hbr
          have hbr := of_decide_eq_true hbr
          (exfalso; first | omega | (simp at hbr; done))
        intro hbr
        have hbr := of_decide_eq_false hbr
        refine l_guard_no rfl rfl rfl ?_
        refine l_guard_no rfl rfl rfl ?_
        refine l_guard_no rfl rfl rfl ?_
        refine l_guard_no rfl rfl rfl ?_
        refine l_guard_no rfl rfl rfl ?_
        refine l_guard_no rfl rfl rfl ?_
        refine l_guard_no rfl rfl rfl ?_
        refine l_guard_no rfl rfl rfl ?_
        refine l_guard_no rfl rfl rfl ?_
        refine l_guard_no rfl rfl rfl ?_
        refine l_guard_no rfl rfl rfl ?_
        refine l_guard_no rfl rfl rfl ?_
        refine l_guard_no rfl rfl rfl ?_
        refine l_guard_no rfl rfl rfl ?_
        refine l_pick_f rfl rfl rfl ?_
        refine l_nil ?_
        first | refine g_cond_f rfl ?_ | refine g_cond_f (congrArg (fun b => some (Value.bool b)) (decide_eq_false hbr)) ?_
        refine g_skip ?_
        refine g_inBlock ?_
        refine g_region ?_
        first | refine l_add rfl rfl rfl (w_i64 (by omega) (by omega)) ?_ | refine l_addw rfl rfl rfl ?_
        refine l_move rfl rfl ?_
        refine l_nil ?_
        exact g_againi (ihk (k + 1) (by omega) (by omega)) (.cons rfl (.cons rfl (.cons rfl (.cons rfl (.cons rfl (.cons rfl (.cons rfl (.cons rfl (.cons rfl (.cons rfl (.cons rfl (.cons rfl (.cons rfl (.cons rfl (.cons rfl (.cons rfl (.cons rfl (.cons rfl (.cons rfl (.cons rfl (.cons rfl (.nil))))))))))))))))))))))
      intro hbr
      have hg42 := hbr
      have hbr := of_decide_eq_false hbr
      refine gp_quietg 4 rfl rfl rfl rfl rfl rfl (.no rfl rfl) ?_
      refine gp_quietg 5 rfl rfl rfl rfl rfl rfl (.no rfl rfl) ?_
      refine gp_quietg 6 rfl rfl rfl rfl rfl rfl (.no rfl rfl) ?_
      refine gp_quietg 7 rfl rfl rfl rfl rfl rfl (.no rfl rfl) ?_
      refine gp_quietg 8 rfl rfl rfl rfl rfl rfl (.no rfl rfl) ?_
      refine gp_quietg 9 rfl rfl rfl rfl rfl rfl (.no rfl rfl) ?_
      refine gp_quietg 10 rfl rfl rfl rfl rfl rfl (.no rfl rfl) ?_
      refine gp_quietg 11 rfl rfl rfl rfl rfl rfl (.no rfl rfl) ?_
      refine gp_quietg 12 rfl rfl rfl rfl rfl rfl (.no rfl rfl) ?_
      refine gp_quietg 13 rfl rfl rfl rfl rfl rfl (.no rfl rfl) ?_
      refine gp_quietg 14 rfl rfl rfl rfl rfl rfl (.no rfl rfl) ?_
      refine gp_quietg 15 rfl rfl rfl rfl rfl rfl (.no rfl rfl) ?_
      refine gp_quietg 16 rfl rfl rfl rfl rfl rfl (.no rfl rfl) ?_
      refine gp_quietg 17 rfl rfl rfl rfl rfl rfl (.no rfl rfl) ?_
      refine gp_quietg 18 rfl rfl rfl rfl rfl rfl (.no rfl rfl) ?_
      refine gp_quietg 19 rfl rfl rfl rfl rfl rfl (.no rfl rfl) ?_
      refine gp_quietg 20 rfl rfl rfl rfl rfl rfl (.no rfl rfl) ?_
      refine gp_quiet 21 rfl rfl rfl rfl rfl rfl (q_pick_f rfl rfl) ?_
      refine gp_end rfl rfl ?_
      first | refine g_cond_f rfl ?_ | refine g_cond_f (congrArg (fun b => some (Value.bool b)) (decide_eq_false hbr)) ?_
      refine g_skip ?_
      refine g_seq ?_
      refine g_region ?_
      refine l_move rfl rfl ?_
      refine l_move rfl rfl ?_
      refine l_geq rfl rfl rfl ?_
      refine l_move rfl rfl ?_
      refine l_split 64 rfl ?_ ?_
      · intro hbr
        have hbr := of_decide_eq_true hbr
        refine l_guard_yes rfl rfl ?_
        refine l_fieldAddr rfl fa_60_1 rfl ?_
        refine l_guard_yes rfl rfl ?_
        refine l_ld rfl Try.isAgg23 rfl rfl ?_
        refine l_guard_yes rfl rfl ?_
        refine l_move rfl rfl ?_
        refine l_guard_yes rfl rfl ?_
        obtain ⟨b9, o9, x9, rfl, hr9, hx9⟩ := (hW.tr hkw (by omega)).some (i := k.toNat) (by omega)
        have hz9 := mkW (n := n) (i := k.toNat) (by omega) ((rm_at (hK2.tr hk2 (by omega)).1 hx9 (by omega)).elim (fun h => absurd h.1 (by omega)) (fun h => h.2))
        rw [hit] at hz9
        obtain rfl := hz9
        refine l_ixs rfl Try.underlying23 Try.sizeOf38 rfl rfl (by omega) (by omega) ?_
        refine l_guard_yes rfl rfl ?_
        refine l_loadc rfl Try.isAgg38 rfl (lx_cell hr6 hkw (by omega)) ?_
        refine l_guard_yes rfl rfl ?_
        refine l_move rfl rfl ?_
        refine l_guard_yes rfl rfl ?_
        refine l_ixs rfl Try.underlying38 Try.sizeOf40 rfl rfl (by omega) (by omega) ?_
        refine l_guard_yes rfl rfl ?_
        refine l_loadr (l := winRow _) rfl Try.isAgg40 Try.sizeOf40 rfl rfl (tr_row wLen hr9 hx9) ?_
        refine l_guard_yes rfl rfl ?_
        refine l_move rfl rfl ?_
        refine l_guard_yes rfl rfl ?_
        first | refine l_sub_ rfl rfl rfl (w_i64 (by omega) (by omega)) ?_ | refine l_subw rfl rfl rfl ?_
        refine l_guard_yes rfl rfl ?_
        refine l_move rfl rfl ?_
        refine l_guard_yes rfl rfl ?_
        first | refine l_add rfl rfl rfl (w_i64 (by omega) (by omega)) ?_ | refine l_addw rfl rfl rfl ?_
        refine l_guard_yes rfl rfl ?_
        refine l_build rfl rfl (fun w => bd_40_0 _ w) ?_
        refine l_guard_yes rfl rfl ?_
        refine l_bin rfl rfl rfl (fun w => run_eqGuard_agg w _ _ _ _ _ _ Try.eqGuardType40) (fun w => same_w _ w) ?_
        refine l_pick_t rfl rfl rfl ?_
        refine l_nil ?_
        first | refine g_cond_f rfl ?_ | refine g_cond_f (congrArg (fun b => some (Value.bool b)) (decide_eq_false hbr)) ?_
        refine g_skip ?_
        refine g_inBlock ?_
        refine g_region ?_
        first | refine l_add rfl rfl rfl (w_i64 (by omega) (by omega)) ?_ | refine l_addw rfl rfl rfl ?_
        refine l_move rfl rfl ?_
        refine l_nil ?_
        exact g_againi (ihk (k + 1) (by omega) (by omega)) (.cons rfl (.cons rfl (.cons rfl (.cons rfl (.cons rfl (.cons rfl (.cons rfl (.cons rfl (.cons rfl (.cons rfl (.cons rfl (.cons rfl (.cons rfl (.cons rfl (.cons rfl (.cons rfl (.cons rfl (.cons rfl (.cons rfl (.cons rfl (.cons rfl (.nil))))))))))))))))))))))
      · intro hbr
        have hbr := of_decide_eq_false hbr
        (exfalso; first | omega | (simp at hbr; done))
    intro hbr
    have hbr := of_decide_eq_false hbr
    refine g_exit rfl ?_
    refine g_inBlock ?_
    refine g_region ?_
    first | refine l_add rfl rfl rfl (w_i64 (by omega) (by omega)) ?_ | refine l_addw rfl rfl rfl ?_
    refine l_move rfl rfl ?_
    refine l_nil ?_
    exact g_againi (ih (i + 1) (by omega) (by omega)) (.cons rfl (.cons rfl (.cons rfl (.cons rfl (.nil)))))
  intro hbr
  have hbr := of_decide_eq_false hbr
  refine g_exit rfl ?_
  refine g_seq ?_
  refine g_seq ?_
  refine g_region ?_
  refine l_fieldAddr rfl fa_27_5 rfl ?_
  refine l_ld rfl Try.isAgg24 rfl rfl ?_
  refine l_len rfl Try.underlying24 rfl ?_
  refine l_move rfl rfl ?_
  refine l_nil ?_
  refine g_block ?_
  refine g_loopc (X := Int) [(4, _), (5, _), (84, _)] (.cons rfl (.cons rfl (.cons rfl (.nil)))) (fun j => 0 ≤ j ∧ j ≤ pn) (fun j => (pn - j).toNat) (fun j => [(85, .int .i64 j)]) (0) (by omega) (.cons rfl .nil) ?_
  rintro j ⟨j0, j1⟩ ihj
  dsimp only [List.cons_append, List.nil_append] at ihj ⊢
  refine g_seq ?_
  refine g_region ?_
  refine l_lss rfl rfl rfl ?_
  refine l_nil ?_
  refine g_seq ?_
  refine g_cond rfl ?_ ?_
  · intro hbr
    have hbr := of_decide_eq_true hbr
    refine g_skip ?_
    refine g_seq ?_
    refine g_block ?_
    refine g_seq ?_
    refine g_region ?_
    refine l_move rfl rfl ?_
    refine l_assign rfl rfl ?_
    refine l_nil ?_
    refine g_seq ?_
    refine gp_start mo (by kernel_rfl) (by kernel_rfl) ?_
    refine gp_quiet 0 rfl rfl rfl rfl rfl rfl (q_fieldAddr fa_60_3 rfl) ?_
    refine gp_quiet 1 rfl rfl rfl rfl rfl rfl (q_ld Try.isAgg57 rfl rfl) ?_
    refine gp_quiet 2 rfl rfl rfl rfl rfl rfl (q_move rfl) ?_
    obtain ⟨⟨nm, e1, e2, e3, e4, e5, ra, rn, rc, R, qa, qn, qc, Q⟩, hp2⟩ : ∃ X, P2 j.toNat = X := ⟨_, rfl⟩
    obtain ⟨⟨ar, nr, cr, Lr⟩, hkr⟩ : ∃ X, XR j.toNat = X := ⟨_, rfl⟩
    obtain ⟨⟨ap, np, cp, Lp⟩, hkp⟩ : ∃ X, XP j.toNat = X := ⟨_, rfl⟩
    have hs := sR j.toNat (by omega)
    simp only [hkr, hp2] at hs
    obtain ⟨rfl, rfl⟩ : nr = rn + 12 ∧ Lr = rm RMk R 12 := hs
    have hs := sX j.toNat (by omega)
    simp only [hkp, hp2] at hs
    obtain ⟨rfl, rfl⟩ : np = qn + 12 ∧ Lp = rm PMk Q 12 := hs
    have hn8 := hpk j.toNat (by omega)
    rw [hp2] at hn8
    obtain ⟨hn8, hn7⟩ : rn ≤ 2147483647 ∧ qn ≤ 2147483647 := hn8
    obtain ⟨b8, o8, rfl, hr8⟩ := hXR.some (i := j.toNat) (by omega)
    obtain ⟨b6, o6, rfl, hr6⟩ := hXP.some (i := j.toNat) (by omega)
    obtain ⟨b5, o5, rfl, hr5⟩ := hP2.some (i := j.toNat) (by omega)
    refine gp_quiet 3 rfl rfl rfl rfl rfl rfl (q_ixs Try.underlying57 Try.sizeOf66 rfl rfl (by omega) (by omega)) ?_
    refine gp_quiet 4 rfl rfl rfl rfl rfl rfl (q_loadc Try.isAgg66 rfl (lx_cell hr8 hkr (by omega))) ?_
    refine gp_quiet 5 rfl rfl rfl rfl rfl rfl (q_fieldAddr fa_60_4 rfl) ?_
    refine gp_quiet 6 rfl rfl rfl rfl rfl rfl (q_ld Try.isAgg58 rfl rfl) ?_
    refine gp_quiet 7 rfl rfl rfl rfl rfl rfl (q_move rfl) ?_
    refine gp_quiet 8 rfl rfl rfl rfl rfl rfl (q_ixs Try.underlying58 Try.sizeOf67 rfl rfl (by omega) (by omega)) ?_
    refine gp_quiet 9 rfl rfl rfl rfl rfl rfl (q_loadc Try.isAgg67 rfl (lx_cell hr6 hkp (by omega))) ?_
    refine gp_quiet 10 rfl rfl rfl rfl rfl rfl (q_fieldAddr fa_27_5 rfl) ?_
    refine gp_quiet 11 rfl rfl rfl rfl rfl rfl (q_ld Try.isAgg24 rfl rfl) ?_
    refine gp_quiet 12 rfl rfl rfl rfl rfl rfl (q_move rfl) ?_
    refine gp_quiet 13 rfl rfl rfl rfl rfl rfl (q_ixs Try.underlying24 Try.sizeOf69 rfl rfl (by omega) (by omega)) ?_
    refine gp_quiet 14 rfl rfl rfl rfl rfl rfl (q_loadr (l := [.string nm, .int .i64 e1, .int .i64 e2, .int .i64 e3, .int .i64 e4, .int .i64 e5, .slice ra rn rc, .slice qa qn qc]) Try.isAgg69 Try.sizeOf69 rfl rfl (px_row hr5 hp2 (by omega))) ?_
    refine gp_effa 15 [4, 9, 14] [13, 12, 11, 10, 8, 7, 6, 5, 3, 2, 1, 0] rfl rfl rfl rfl rfl rfl rfl (does_call Try.call46 rfl (keptpart_ok _ _ nm e1 e2 e3 e4 e5 ra ar qa ap rn rc cr qn qc cp R Q (hXR.tr hkr (by omega)).ex (hP2.trR hp2 (by omega)).ex (hXP.tr hkp (by omega)).ex (hP2.trQ hp2 (by omega)).ex hn8 hn7)) ?_
    rintro _ _ ⟨rfl, rfl⟩
    refine ⟨?_, ?_⟩
    · refine .cons rfl rfl rfl rfl rfl (q_ixs Try.underlying24 Try.sizeOf69 rfl rfl (by omega) (by omega)) ?_
      refine .cons rfl rfl rfl rfl rfl (q_move rfl) ?_
      refine .cons rfl rfl rfl rfl rfl (q_ld Try.isAgg24 rfl rfl) ?_
      refine .cons rfl rfl rfl rfl rfl (q_fieldAddr fa_27_5 rfl) ?_
      refine .cons rfl rfl rfl rfl rfl (q_ixs Try.underlying58 Try.sizeOf67 rfl rfl (by omega) (by omega)) ?_
      refine .cons rfl rfl rfl rfl rfl (q_move rfl) ?_
      refine .cons rfl rfl rfl rfl rfl (q_ld Try.isAgg58 rfl rfl) ?_
      refine .cons rfl rfl rfl rfl rfl (q_fieldAddr fa_60_4 rfl) ?_
      refine .cons rfl rfl rfl rfl rfl (q_ixs Try.underlying57 Try.sizeOf66 rfl rfl (by omega) (by omega)) ?_
      refine .cons rfl rfl rfl rfl rfl (q_move rfl) ?_
      refine .cons rfl rfl rfl rfl rfl (q_ld Try.isAgg57 rfl rfl) ?_
      refine .cons rfl rfl rfl rfl rfl (q_fieldAddr fa_60_3 rfl) ?_
      exact .nil
    refine gp_quiet 16 rfl rfl rfl rfl rfl rfl (q_not rfl) ?_
    refine gp_end rfl rfl ?_
    first | refine g_cond_f rfl ?_ | refine g_cond_f (congrArg (fun b => some (Value.bool b)) (decide_eq_false hbr)) ?_
    refine g_skip ?_
    refine g_inBlock ?_
    refine g_region ?_
    first | refine l_add rfl rfl rfl (w_i64 (by omega) (by omega)) ?_ | refine l_addw rfl rfl rfl ?_
    refine l_move rfl rfl ?_
    refine l_nil ?_
    exact g_againi (ihj (j + 1) (by omega) (by omega)) (.cons rfl (.cons rfl (.cons rfl (.cons rfl (.nil)))))
  intro hbr
  have hbr := of_decide_eq_false hbr
  refine g_exit rfl ?_
  refine g_seq ?_
  refine g_seq ?_
  refine g_region ?_
  refine l_move rfl rfl ?_
  refine l_nil ?_
  refine g_block ?_
  refine g_loopc (X := Int) [(4, _), (5, _)] (.cons rfl (.cons rfl (.nil))) (fun k => 0 ≤ k ∧ k ≤ 12) (fun k => (12 - k).toNat) (fun k => [(106, .int .i64 k)]) (0) (by omega) (.cons rfl .nil) ?_
  rintro k ⟨k0, k1⟩ ihk
  dsimp only [List.cons_append, List.nil_append] at ihk ⊢
  refine g_seq ?_
  refine g_region ?_
  refine l_lss rfl rfl rfl ?_
  refine l_nil ?_
  refine g_seq ?_
  refine g_cond rfl ?_ ?_
  · intro hbr
    have hbr := of_decide_eq_true hbr
    refine g_skip ?_
    refine g_seq ?_
    refine g_block ?_
    refine g_seq ?_
    refine g_region ?_
    refine l_move rfl rfl ?_
    refine l_assign rfl rfl ?_
    refine l_nil ?_
    refine g_seq ?_
    refine g_region ?_
    refine l_fieldAddr rfl fa_60_0 rfl ?_
    refine l_ld rfl Try.isAgg23 rfl rfl ?_
    refine l_fieldAddr rfl fa_27_4 rfl ?_
    refine l_ld rfl Try.isAgg23 rfl rfl ?_
    refine l_len rfl Try.underlying23 rfl ?_
    refine l_move rfl rfl ?_
    first | refine l_add rfl rfl rfl (w_i64 (by omega) (by omega)) ?_ | refine l_addw rfl rfl rfl ?_
    obtain ⟨⟨a3, n3, c3, L3⟩, hk3⟩ : ∃ X, KC ((cn : Int) + k).toNat = X := ⟨_, rfl⟩
    have hs := sC ((cn : Int) + k).toNat (by omega) (by omega)
    rw [hk3] at hs
    obtain ⟨rfl, rfl⟩ : n3 = 1 ∧ L3 = [WMk (((cn : Int) + k).toNat - cn)] := hs
    obtain ⟨b8, o8, rfl, hr8⟩ := hC.some (i := ((cn : Int) + k).toNat) (by omega)
    refine l_ixs rfl Try.underlying23 Try.sizeOf38 rfl rfl (by omega) (by omega) ?_
    refine l_loadc rfl Try.isAgg38 rfl (lx_cell hr8 hk3 (by omega)) ?_
    refine l_assign rfl rfl ?_
    refine l_nil ?_
    refine g_seq ?_
    refine g_region ?_
    refine l_fieldAddr rfl fa_60_2 rfl ?_
    refine l_ld rfl Try.isAgg24 rfl rfl ?_
    refine l_fieldAddr rfl fa_27_5 rfl ?_
    refine l_ld rfl Try.isAgg24 rfl rfl ?_
    refine l_len rfl Try.underlying24 rfl ?_
    refine l_move rfl rfl ?_
    first | refine l_add rfl rfl rfl (w_i64 (by omega) (by omega)) ?_ | refine l_addw rfl rfl rfl ?_
    obtain ⟨b6, o6, rfl, hr6⟩ := hPQ.some (i := ((pn : Int) + k).toNat) (by omega)
    have hs := sQ ((pn : Int) + k).toNat (by omega) (by omega)
    rw [show ((((pn : Int) + k).toNat : Nat) : Int) - pn = k by omega] at hs
    refine l_ixs rfl Try.underlying24 Try.sizeOf69 rfl rfl (by omega) (by omega) ?_
    refine l_loadr (l := [.string ⟨#[]⟩, .int .i64 (-70 - k), .int .i64 0, .int .i64 0, .int .i64 0, .int .i64 0, .slice none 0 0, .slice none 0 0]) rfl Try.isAgg69 Try.sizeOf69 rfl rfl (px_row hr6 hs (by omega)) ?_
    refine l_allocs rfl Try.zeroValue69 ?_; intro b13
    refine l_sts Try.sizeOf69 rfl rfl rfl rfl rfl ?_
    refine l_nil ?_
    refine g_seq ?_
    refine g_seq ?_
    refine g_region ?_
    refine l_move rfl rfl ?_
    refine l_len rfl Try.underlying38 rfl ?_
    refine l_neq rfl rfl rfl ?_
    refine l_move rfl rfl ?_
    refine l_split 130 rfl ?_ ?_
    · intro hbr
      have hbr := of_decide_eq_true hbr
      (exfalso; first | omega | (simp at hbr; done))
    intro hbr
    have hbr := of_decide_eq_false hbr
    refine l_guard_yes rfl rfl ?_
    refine l_move rfl rfl ?_
    refine l_guard_yes rfl rfl ?_
    obtain ⟨b9, o9, x9, rfl, hr9, hx9⟩ := (hC.tr hk3 (by omega)).some (i := (0 : Int).toNat) (by decide)
    have hz9 := mkW2 k0 (Option.some.inj hx9).symm
    obtain rfl := hz9
    refine l_ixs rfl Try.underlying38 Try.sizeOf40 rfl rfl (by omega) (by omega) ?_
    refine l_guard_yes rfl rfl ?_
    refine l_loadr (l := winRow _) rfl Try.isAgg40 Try.sizeOf40 rfl rfl (tr_row wLen hr9 hx9) ?_
    refine l_guard_yes rfl rfl ?_
    refine l_move rfl rfl ?_
    refine l_guard_yes rfl rfl ?_
    first | refine l_sub_ rfl rfl rfl (w_i64 (by omega) (by omega)) ?_ | refine l_subw rfl rfl rfl ?_
    refine l_guard_yes rfl rfl ?_
    refine l_build rfl rfl (fun w => bd_40_0 _ w) ?_
    refine l_guard_yes rfl rfl ?_
    refine l_bin rfl rfl rfl (fun w => run_eqGuard_agg w _ _ _ _ _ _ Try.eqGuardType40) (fun w => same_w _ w) ?_
    refine l_pick_f rfl rfl rfl ?_
    refine l_move rfl rfl ?_
    refine l_guard_yes rfl rfl ?_
    refine l_lds rfl Try.isAgg69 Try.sizeOf69 rfl rfl ?_
    refine l_guard_yes rfl rfl ?_
    refine l_move rfl rfl ?_
    refine l_guard_yes rfl rfl ?_
    first | refine l_sub_ rfl rfl rfl (w_i64 (by omega) (by omega)) ?_ | refine l_subw rfl rfl rfl ?_
    refine l_guard_yes rfl rfl ?_
    refine l_build rfl rfl (fun w => bd_69_1 _ w) ?_
    refine l_guard_yes rfl rfl ?_
    refine l_call rfl Try.call47 rfl (samepart_ok _ _ _ _ _ _ _ _ none none none none 0 0 0 0 0 0 [] [] ⟨rfl, .inl rfl⟩ ⟨rfl, .inl rfl⟩ ⟨rfl, .inl rfl⟩ ⟨rfl, .inl rfl⟩ (by decide) (by decide)) ?_; rintro _ _ ⟨rfl, rfl⟩
    refine l_guard_yes rfl rfl ?_
    refine l_not rfl rfl ?_
    refine l_pick_f rfl rfl rfl ?_
    refine l_nil ?_
    first | refine g_cond_f rfl ?_ | refine g_cond_f (congrArg (fun b => some (Value.bool b)) (decide_eq_false hbr)) ?_
    refine g_skip ?_
    refine g_seq ?_
    refine g_region ?_
    refine l_fieldAddr rfl fa_60_5 rfl ?_
    refine l_ld rfl Try.isAgg25 rfl rfl ?_
    refine l_fieldAddr rfl fa_27_6 rfl ?_
    refine l_ld rfl Try.isAgg25 rfl rfl ?_
    refine l_len rfl Try.underlying25 rfl ?_
    refine l_move rfl rfl ?_
    first | refine l_add rfl rfl rfl (w_i64 (by omega) (by omega)) ?_ | refine l_addw rfl rfl rfl ?_
    obtain ⟨b9, o9, x9, rfl, hr9, hx9⟩ := hHH.some (i := ((hn : Int) + k).toNat) (by omega)
    have hz9 := mkW2 k0 ((rm_at hH2.1 hx9 (by omega)).elim (fun h => absurd h.1 (by omega)) (fun h => h.2))
    obtain rfl := hz9
    refine l_ixs rfl Try.underlying25 Try.sizeOf82 rfl rfl (by omega) (by omega) ?_
    refine l_loadr (l := winRow _) rfl Try.isAgg82 Try.sizeOf82 rfl rfl (tr_row wLen hr9 hx9) ?_
    refine l_move rfl rfl ?_
    first | refine l_sub_ rfl rfl rfl (w_i64 (by omega) (by omega)) ?_ | refine l_subw rfl rfl rfl ?_
    refine l_build rfl rfl (fun w => bd_82_0 _ w) ?_
    refine l_bin rfl rfl rfl (fun w => run_eqGuard_agg w _ _ _ _ _ _ Try.eqGuardType82) (fun w => same_h _ w) ?_
    refine l_nil ?_
    first | refine g_cond_f rfl ?_ | refine g_cond_f (congrArg (fun b => some (Value.bool b)) (decide_eq_false hbr)) ?_
    refine g_skip ?_
    refine g_inBlock ?_
    refine g_region ?_
    first | refine l_add rfl rfl rfl (w_i64 (by omega) (by omega)) ?_ | refine l_addw rfl rfl rfl ?_
    refine l_move rfl rfl ?_
    refine l_nil ?_
    exact g_againi (ihk (k + 1) (by omega) (by omega)) (.cons rfl (.cons rfl (.cons rfl (.nil))))
  intro hbr
  have hbr := of_decide_eq_false hbr
  refine g_exit rfl ?_
  refine g_seq ?_
  refine g_region ?_
  refine l_assign rfl rfl ?_
  refine l_nil ?_
  refine g_ret Try.func33 rfl (.tmp rfl .nil) ?_
  exact Gives.mki ⟨rfl, rfl⟩
/-- What a copy is made of. -/
abbrev GA := Nat → Option Addr × Nat
def cp {α : Type} (K : LX α) (g : Option Addr × Nat) : LX α := ⟨g.1, K.n, g.2, K.L⟩
def cpp (p : PartR) (g h : Option Addr × Nat) : PartR := ⟨p.nm, p.e1, p.e2, p.e3, p.e4, p.e5, g.1, p.rn, g.2, p.R, h.1, p.qn, h.2, p.Q⟩
def cwA (K : Nat → LX Win) (g : GA) (j : Nat) : Atom := Own 40 3 (.slice (g j).1 (K j).n (g j).2) (K j).n (rowsT winRow (K j).L)
def crA (P : Nat → PartR) (g : GA) (j : Nat) : Atom := Own 78 4 (.slice (g j).1 (P j).rn (g j).2) (P j).rn (rowsT spanRow (P j).R)
def cqA (P : Nat → PartR) (g : GA) (j : Nat) : Atom := Own 80 2 (.slice (g j).1 (P j).qn (g j).2) (P j).qn (rowsT prtRow (P j).Q)
def cwL (K : Nat → LX Win) (g : GA) (N : Nat) : List Value := rowsN N fun j => [lxV (cp (K j) (g j))]
def cpL (P : Nat → PartR) (g h : GA) (N : Nat) : List Value := rowsN N fun j => partRow (cpp (P j) (g j) (h j))
theorem cw_push {K : Nat → LX Win} {g : GA} {i : Nat} {a : Option Addr} {n c : Nat} {x : LX Win} (hk : K i = x) (hn : x.n = n) : cwL K g i ++ [.slice a n c] = cwL K (upF g i (a, c)) (i + 1) := by
  have h := rowsN_pushI (r := fun x j => [lxV (cp (K j) x)]) (K := i) (B := g) (x := (a, c))
  simp only [hk, cp, lxV, hn] at h
  simpa only [cwL, cp, lxV] using h
theorem cp_push {P : Nat → PartR} {g h : GA} {i : Nat} {a b : Option Addr × Nat} {x : PartR} (hk : P i = x) : cpL P g h i ++ partRow (cpp x a b) = cpL P (upF g i a) (upF h i b) (i + 1) := by
  have h9 := rowsN_pushI (r := fun (x : (Option Addr × Nat) × (Option Addr × Nat)) j => partRow (cpp (P j) x.1 x.2)) (K := i) (B := fun j => (g j, h j)) (x := (a, b))
  simp only [hk] at h9
  rw [cpL, h9, cpL]
  exact rowsN_congr fun k _ => by
    by_cases e : k = i
    · subst e; simp only [upF_at]
    · simp only [upF_ne e]
def NZ (N : Nat → Nat) (g : GA) (n : Nat) : Prop := ∀ j, j < n → N j = 0 ∨ ∃ b, (g j).1 = some ⟨b, 0, none⟩
theorem NZ.next {N : Nat → Nat} {g : GA} {i m : Nat} {a : Option Addr} {c : Nat} (h : NZ N g i) (hm : N i = m) (ha : m = 0 ∨ ∃ b, a = some ⟨b, 0, none⟩) : NZ N (upF g i (a, c)) (i + 1) := fun j hj => by
  by_cases e : j = i
  · subst e
    rw [hm, upF_at]; exact ha
  · rw [upF_ne e]; exact h j (by omega)
theorem NZ.zero (N : Nat → Nat) (g : GA) : NZ N g 0 := fun j hj => absurd hj (Nat.not_lt_zero _)
set_option maxHeartbeats 2000000 in
theorem rcopied_ok (w0 : World) (F : List Atom) (fr mj kr rr : Int) (ca pa ha : Option Addr) (cn cc pn pc hn hc : Nat) (K : Nat → LX Win) (P : Nat → PartR) (H : List Win) (hK : LLR winRow w0 F ca cn K) (hP : PXR w0 F pa pn P) (hH : TR winRow w0 F ha hn H) (nK : ∀ i, i < cn → (K i).a = none → (K i).c = 0) (nP : ∀ i, i < pn → ((P i).ra = none → (P i).rc = 0) ∧ ((P i).qa = none → (P i).qc = 0)) (nH : ha = none → hc = 0) (hcn : cn ≤ 2147483647) (hpn : pn ≤ 2147483647) (hhn : hn ≤ 2147483647) (hkn : ∀ i, i < cn → (K i).n ≤ 2147483647) (hpk : ∀ i, i < pn → (P i).rn ≤ 2147483647 ∧ (P i).qn ≤ 2147483647) :
    CallK Try.prog 34 [.agg [Value.int .i64 fr, .int .i64 mj, .int .i64 kr, .int .i64 rr, .slice ca cn cc, .slice pa pn pc, .slice ha hn hc].toArray] w0 (F) (Gives w0 fun v F2 => ∃ g gr gq aC cC aQ cQ aH cH, v = .agg [Value.int .i64 fr, .int .i64 mj, .int .i64 kr, .int .i64 rr, .slice aC cn cC, .slice aQ pn cQ, .slice aH hn cH].toArray ∧ ((cn = 0 ∨ ∃ b, aC = some ⟨b, 0, none⟩) ∧ (pn = 0 ∨ ∃ b, aQ = some ⟨b, 0, none⟩) ∧ (hn = 0 ∨ ∃ b, aH = some ⟨b, 0, none⟩) ∧ NZ (fun j => (K j).n) g cn ∧ NZ (fun j => (P j).rn) gr pn ∧ NZ (fun j => (P j).qn) gq pn) ∧ F2 = Own 38 1 (.slice aC cn cC) cn (cwL K g cn) :: BigF cn (cwA K g) :: Own 69 8 (.slice aQ pn cQ) pn (cpL P gr gq pn) :: BigF pn (crA P gr) :: BigF pn (cqA P gq) :: Own 82 3 (.slice aH hn cH) hn (rowsT winRow H) :: F) := by
  refine c_enter Try.func34 rfl rfl rfl ?_
  refine g_seq ?_
  refine g_region ?_
  refine l_boxs rfl rfl ?_; intro b1
  refine l_allocs rfl Try.zeroValue27 ?_; intro b2
  refine l_nil ?_
  refine g_seq ?_
  refine g_region ?_
  refine l_lds rfl Try.isAgg27 Try.sizeOf27 rfl rfl ?_
  refine l_allocs rfl Try.zeroValue27 ?_; intro b3
  refine l_sts Try.sizeOf27 rfl rfl rfl rfl rfl ?_
  refine l_nil ?_
  refine g_seq ?_
  refine g_region ?_
  refine l_fieldAddr rfl fa_27_4 rfl ?_
  refine l_st Try.sizeOf23 rfl rfl rfl rfl ?_
  refine l_nil ?_
  refine g_seq ?_
  refine g_seq ?_
  refine g_region ?_
  refine l_fieldAddr rfl fa_27_4 rfl ?_
  refine l_ld rfl Try.isAgg23 rfl rfl ?_
  refine l_len rfl Try.underlying23 rfl ?_
  refine l_move rfl rfl ?_
  refine l_nil ?_
  refine g_block ?_
  refine g_bigzero (cwA K fun _ => (none, 0)) ?_
  refine g_own_nil 38 1 ?_
  refine g_loopk (X := Int × GA × Option Addr × Nat) [(1, _), (2, _), (3, _), (14, _)] (.cons rfl (.cons rfl (.cons rfl (.cons rfl (.nil))))) (fun z => 0 ≤ z.1 ∧ z.1 ≤ cn ∧ NZ (fun j => (K j).n) z.2.1 z.1.toNat) (fun z => (cn - z.1).toNat) (fun z => [(15, .int .i64 z.1)]) (fun z => Own 38 1 (.slice z.2.2.1 z.1.toNat z.2.2.2) z.1.toNat (cwL K z.2.1 z.1.toNat) :: BigF z.1.toNat (cwA K z.2.1) :: Blk b3 (.cells [Value.int .i64 fr, .int .i64 mj, .int .i64 kr, .int .i64 rr, .slice z.2.2.1 z.1.toNat z.2.2.2, .slice pa pn pc, .slice ha hn hc].toArray 27 (0, 0)) :: Blk b1 (.cells [Value.int .i64 fr, .int .i64 mj, .int .i64 kr, .int .i64 rr, .slice ca cn cc, .slice pa pn pc, .slice ha hn hc].toArray 27 (0, 0)) :: Blk b2 (.cells [Value.int .i64 0, .int .i64 0, .int .i64 0, .int .i64 0, .slice none 0 0, .slice none 0 0, .slice none 0 0].toArray 27 (0, 0)) :: F) ((0, fun _ => (none, 0), none, 0)) (⟨by simp only; omega, by simp only; omega, NZ.zero _ _⟩) (.cons rfl .nil) (fun w hw => (SPI.holds hw : Holds w0 (Own 38 1 (.slice none 0 0) 0 [] :: BigF 0 (cwA K fun _ => (none, 0)) :: Blk b3 (.cells [Value.int .i64 fr, .int .i64 mj, .int .i64 kr, .int .i64 rr, .slice none 0 0, .slice pa pn pc, .slice ha hn hc].toArray 27 (0, 0)) :: Blk b1 (.cells [Value.int .i64 fr, .int .i64 mj, .int .i64 kr, .int .i64 rr, .slice ca cn cc, .slice pa pn pc, .slice ha hn hc].toArray 27 (0, 0)) :: Blk b2 (.cells [Value.int .i64 0, .int .i64 0, .int .i64 0, .int .i64 0, .slice none 0 0, .slice none 0 0, .slice none 0 0].toArray 27 (0, 0)) :: F) w)) ?_
  rintro ⟨i, g, aC, cC⟩ ⟨i0, i1, hz⟩ ih
  dsimp only [List.cons_append, List.nil_append] at ih ⊢
  simp only at i0 i1 hz
  refine g_seq ?_
  refine g_region ?_
  refine l_lss rfl rfl rfl ?_
  refine l_nil ?_
  refine g_seq ?_
  refine g_cond rfl ?_ ?_
  · intro hbr
    have hbr := of_decide_eq_true hbr
    refine g_skip ?_
    refine g_seq ?_
    refine g_block ?_
    refine g_seq ?_
    refine g_region ?_
    refine l_move rfl rfl ?_
    refine l_assign rfl rfl ?_
    refine l_nil ?_
    refine g_seq ?_
    refine g_region ?_
    refine l_assign rfl rfl ?_
    refine l_nil ?_
    refine g_seq ?_
    refine g_region ?_
    refine l_move rfl rfl ?_
    refine l_fieldAddr rfl fa_27_4 rfl ?_
    refine l_ld rfl Try.isAgg23 rfl rfl ?_
    refine l_move rfl rfl ?_
    obtain ⟨⟨a, n, c, L⟩, hk⟩ : ∃ X, K i.toNat = X := ⟨_, rfl⟩
    have hn9 := hkn i.toNat (by omega)
    have hnc := nK i.toNat (by omega)
    rw [hk] at hn9 hnc
    replace hn9 : n ≤ 2147483647 := hn9
    replace hnc : a = none → c = 0 := hnc
    obtain ⟨b8, o8, rfl, hr8⟩ := hK.some (i := i.toNat) (by omega)
    refine l_ixs rfl Try.underlying23 Try.sizeOf38 rfl rfl (by omega) (by omega) ?_
    refine l_loadc rfl Try.isAgg38 rfl (lx_cell hr8 hk (by omega)) ?_
    refine l_own_nil 40 3 ?_
    refine l_does rfl (does_appendT 0 (sz := 3) (by_ := 24) wLen wSc Try.underlying38 Try.type40 rfl rfl rfl rfl rfl rfl rfl rfl (hK.tr hk (by omega)).ex hnc (by omega) (by simp only [maxLen]; omega) (fun _ _ => rfl)) ?_
    rintro _ _ ⟨a24, c24, ha24, rfl, rfl⟩
    refine l_assign rfl rfl ?_
    refine l_nil ?_
    refine g_region ?_
    refine l_fieldAddr rfl fa_27_4 rfl ?_
    refine l_ld rfl Try.isAgg23 rfl rfl ?_
    refine l_move rfl rfl ?_
    refine l_buildSlice rfl Try.underlying23 Try.sizeOf38 Try.zeroValue38 rfl rfl rfl rfl rfl rfl ?_; intro b28
    refine l_frontv (.slice aC i.toNat cC) ?_
    refine l_does rfl (does_appendS 0 (sz := 1) (by_ := 24) (m2 := 1) (news := [.slice a24 n c24]) (m3 := (i + 1).toNat) (X3 := cwL K (upF g i.toNat (a24, c24)) (i + 1).toNat) Try.underlying23 Try.type38 rfl rfl rfl rfl rfl rfl rfl rfl ⟨rfl, .inl ⟨_, _, _, rfl, .own (mem_getO 1 rfl)⟩⟩ rfl (by omega) (by simp only [maxLen]; omega) (by omega) (by rw [cw_push hk rfl, show i.toNat + 1 = (i + 1).toNat by omega]) (fun _ _ => rfl)) ?_
    rintro _ _ ⟨a29, c29, ha29, rfl, rfl⟩
    refine l_fieldAddr rfl fa_27_4 rfl ?_
    refine l_st Try.sizeOf23 rfl rfl rfl rfl ?_
    refine l_nil ?_
    refine g_inBlock ?_
    refine g_region ?_
    first | refine l_add rfl rfl rfl (w_i64 (by omega) (by omega)) ?_ | refine l_addw rfl rfl rfl ?_
    refine l_move rfl rfl ?_
    refine l_nil ?_
    refine g_take (BigF i.toNat (cwA K g)) ?_
    refine g_frontv (.slice a24 n c24) ?_
    refine g_snocb (cwA K (upF g i.toNat (a24, c24))) (by simp only [cwA, upF_at, hk]) (fun k hk9 => by simp only [cwA, upF_ne (show k ≠ i.toNat by omega)]) ?_
    have hz9 := hz.next (c := c24) (congrArg LX.n hk) ha24
    rw [show i.toNat + 1 = (i + 1).toNat by omega] at hz9 ⊢
    exact g_againi (ih (i + 1, upF g i.toNat (a24, c24), a29, c29) ⟨by simp only; omega, by simp only; omega, hz9⟩ (by simp only; omega)) (.cons rfl (.cons rfl (.cons rfl (.cons rfl (.cons rfl (.nil))))))
  intro hbr
  have hbr := of_decide_eq_false hbr
  refine g_exit rfl ?_
  obtain rfl : i = cn := by omega
  rw [Int.toNat_natCast] at hz ⊢
  refine g_frontv (.slice aC cn cC) ?_
  refine g_fact (own_nil2 (mem_getO 0 rfl)) ?_
  rintro ⟨_, haC⟩
  refine g_seq ?_
  refine g_region ?_
  refine l_fieldAddr rfl fa_27_5 rfl ?_
  refine l_st Try.sizeOf24 rfl rfl rfl rfl ?_
  refine l_nil ?_
  refine g_seq ?_
  refine g_seq ?_
  refine g_region ?_
  refine l_fieldAddr rfl fa_27_5 rfl ?_
  refine l_ld rfl Try.isAgg24 rfl rfl ?_
  refine l_len rfl Try.underlying24 rfl ?_
  refine l_move rfl rfl ?_
  refine l_nil ?_
  refine g_block ?_
  refine g_bigzero (crA P fun _ => (none, 0)) ?_
  refine g_bigzero (cqA P fun _ => (none, 0)) ?_
  refine g_own_nil 69 8 ?_
  refine g_loopk (X := Int × GA × GA × Option Addr × Nat) [(1, _), (2, _), (3, _), (35, _)] (.cons rfl (.cons rfl (.cons rfl (.cons rfl (.nil))))) (fun z => 0 ≤ z.1 ∧ z.1 ≤ pn ∧ NZ (fun j => (P j).rn) z.2.1 z.1.toNat ∧ NZ (fun j => (P j).qn) z.2.2.1 z.1.toNat) (fun z => (pn - z.1).toNat) (fun z => [(36, .int .i64 z.1)]) (fun z => Own 69 8 (.slice z.2.2.2.1 z.1.toNat z.2.2.2.2) z.1.toNat (cpL P z.2.1 z.2.2.1 z.1.toNat) :: BigF z.1.toNat (crA P z.2.1) :: BigF z.1.toNat (cqA P z.2.2.1) :: Blk b3 (.cells [Value.int .i64 fr, .int .i64 mj, .int .i64 kr, .int .i64 rr, .slice aC cn cC, .slice z.2.2.2.1 z.1.toNat z.2.2.2.2, .slice ha hn hc].toArray 27 (0, 0)) :: Own 38 1 (.slice aC cn cC) cn (cwL K g cn) :: BigF cn (cwA K g) :: Blk b1 (.cells [Value.int .i64 fr, .int .i64 mj, .int .i64 kr, .int .i64 rr, .slice ca cn cc, .slice pa pn pc, .slice ha hn hc].toArray 27 (0, 0)) :: Blk b2 (.cells [Value.int .i64 0, .int .i64 0, .int .i64 0, .int .i64 0, .slice none 0 0, .slice none 0 0, .slice none 0 0].toArray 27 (0, 0)) :: F) ((0, fun _ => (none, 0), fun _ => (none, 0), none, 0)) (⟨by simp only; omega, by simp only; omega, NZ.zero _ _, NZ.zero _ _⟩) (.cons rfl .nil) (fun w hw => (SPI.holds hw : Holds w0 (Own 69 8 (.slice none 0 0) 0 [] :: BigF 0 (crA P fun _ => (none, 0)) :: BigF 0 (cqA P fun _ => (none, 0)) :: Blk b3 (.cells [Value.int .i64 fr, .int .i64 mj, .int .i64 kr, .int .i64 rr, .slice aC cn cC, .slice none 0 0, .slice ha hn hc].toArray 27 (0, 0)) :: Own 38 1 (.slice aC cn cC) cn (cwL K g cn) :: BigF cn (cwA K g) :: Blk b1 (.cells [Value.int .i64 fr, .int .i64 mj, .int .i64 kr, .int .i64 rr, .slice ca cn cc, .slice pa pn pc, .slice ha hn hc].toArray 27 (0, 0)) :: Blk b2 (.cells [Value.int .i64 0, .int .i64 0, .int .i64 0, .int .i64 0, .slice none 0 0, .slice none 0 0, .slice none 0 0].toArray 27 (0, 0)) :: F) w)) ?_
  rintro ⟨j, gr, gq, aQ, cQ⟩ ⟨j0, j1, hzr, hzq⟩ ihj
  dsimp only [List.cons_append, List.nil_append] at ihj ⊢
  simp only at j0 j1 hzr hzq
  refine g_seq ?_
  refine g_region ?_
  refine l_lss rfl rfl rfl ?_
  refine l_nil ?_
  refine g_seq ?_
  refine g_cond rfl ?_ ?_
  · intro hbr
    have hbr := of_decide_eq_true hbr
    refine g_skip ?_
    refine g_seq ?_
    refine g_block ?_
    refine g_seq ?_
    refine g_region ?_
    refine l_move rfl rfl ?_
    refine l_assign rfl rfl ?_
    refine l_nil ?_
    refine g_seq ?_
    refine g_region ?_
    refine l_fieldAddr rfl fa_27_5 rfl ?_
    refine l_ld rfl Try.isAgg24 rfl rfl ?_
    refine l_move rfl rfl ?_
    obtain ⟨⟨nm, e1, e2, e3, e4, e5, ra, rn, rc, R, qa, qn, qc, Q⟩, hp⟩ : ∃ X, P j.toNat = X := ⟨_, rfl⟩
    have hn8 := hpk j.toNat (by omega)
    have hnc := nP j.toNat (by omega)
    rw [hp] at hn8 hnc
    obtain ⟨hn8, hn7⟩ : rn ≤ 2147483647 ∧ qn ≤ 2147483647 := hn8
    obtain ⟨hnr, hnq⟩ : (ra = none → rc = 0) ∧ (qa = none → qc = 0) := hnc
    obtain ⟨b8, o8, rfl, hr8⟩ := hP.some (i := j.toNat) (by omega)
    refine l_ixs rfl Try.underlying24 Try.sizeOf69 rfl rfl (by omega) (by omega) ?_
    refine l_loadr (l := [.string nm, .int .i64 e1, .int .i64 e2, .int .i64 e3, .int .i64 e4, .int .i64 e5, .slice ra rn rc, .slice qa qn qc]) rfl Try.isAgg69 Try.sizeOf69 rfl rfl (px_row hr8 hp (by omega)) ?_
    refine l_allocs rfl Try.zeroValue69 ?_; intro b7
    refine l_sts Try.sizeOf69 rfl rfl rfl rfl rfl ?_
    refine l_nil ?_
    refine g_seq ?_
    refine g_region ?_
    refine l_assign rfl rfl ?_
    refine l_nil ?_
    refine g_seq ?_
    refine g_region ?_
    refine l_move rfl rfl ?_
    refine l_fieldAddr rfl fa_69_6 rfl ?_
    refine l_ld rfl Try.isAgg66 rfl rfl ?_
    refine l_own_nil 78 4 ?_
    refine l_does rfl (does_appendT 0 (sz := 4) (by_ := 32) rLen rSc Try.underlying66 Try.type78 rfl rfl rfl rfl rfl rfl rfl rfl (hP.trR hp (by omega)).ex hnr (by omega) (by simp only [maxLen]; omega) (fun _ _ => rfl)) ?_
    rintro _ _ ⟨a47, c47, ha47, rfl, rfl⟩
    refine l_assign rfl rfl ?_
    refine l_nil ?_
    refine g_seq ?_
    refine g_region ?_
    refine l_move rfl rfl ?_
    refine l_fieldAddr rfl fa_69_6 rfl ?_
    refine l_st Try.sizeOf66 rfl rfl rfl rfl ?_
    refine l_nil ?_
    refine g_seq ?_
    refine g_region ?_
    refine l_assign rfl rfl ?_
    refine l_nil ?_
    refine g_seq ?_
    refine g_region ?_
    refine l_move rfl rfl ?_
    refine l_fieldAddr rfl fa_69_7 rfl ?_
    refine l_ld rfl Try.isAgg67 rfl rfl ?_
    refine l_own_nil 80 2 ?_
    refine l_does rfl (does_appendT 0 (sz := 2) (by_ := 16) pLen pSc Try.underlying67 Try.type80 rfl rfl rfl rfl rfl rfl rfl rfl (hP.trQ hp (by omega)).ex hnq (by omega) (by simp only [maxLen]; omega) (fun _ _ => rfl)) ?_
    rintro _ _ ⟨a53, c53, ha53, rfl, rfl⟩
    refine l_assign rfl rfl ?_
    refine l_nil ?_
    refine g_seq ?_
    refine g_region ?_
    refine l_move rfl rfl ?_
    refine l_fieldAddr rfl fa_69_7 rfl ?_
    refine l_st Try.sizeOf67 rfl rfl rfl rfl ?_
    refine l_nil ?_
    refine g_region ?_
    refine l_fieldAddr rfl fa_27_5 rfl ?_
    refine l_ld rfl Try.isAgg24 rfl rfl ?_
    refine l_lds rfl Try.isAgg69 Try.sizeOf69 rfl rfl ?_
    refine l_buildSlice rfl Try.underlying24 Try.sizeOf69 Try.zeroValue69 rfl rfl rfl rfl rfl rfl ?_; intro b59
    refine l_frontv (.slice aQ j.toNat cQ) ?_
    refine l_does rfl (does_appendS 0 (sz := 8) (by_ := 104) (m2 := 1) (news := [.string nm, .int .i64 e1, .int .i64 e2, .int .i64 e3, .int .i64 e4, .int .i64 e5, .slice a47 rn c47, .slice a53 qn c53]) (m3 := (j + 1).toNat) (X3 := cpL P (upF gr j.toNat (a47, c47)) (upF gq j.toNat (a53, c53)) (j + 1).toNat) Try.underlying24 Try.type69 rfl rfl rfl rfl rfl rfl rfl rfl ⟨rfl, .inl ⟨_, _, _, rfl, .own (mem_getO 1 rfl)⟩⟩ rfl (by omega) (by simp only [maxLen]; omega) (by omega) (by have h9 := cp_push (g := gr) (h := gq) (a := (a47, c47)) (b := (a53, c53)) hp; rw [show j.toNat + 1 = (j + 1).toNat by omega] at h9; exact h9) (fun _ _ => rfl)) ?_
    rintro _ _ ⟨a60, c60, ha60, rfl, rfl⟩
    refine l_fieldAddr rfl fa_27_5 rfl ?_
    refine l_st Try.sizeOf24 rfl rfl rfl rfl ?_
    refine l_nil ?_
    refine g_inBlock ?_
    refine g_region ?_
    first | refine l_add rfl rfl rfl (w_i64 (by omega) (by omega)) ?_ | refine l_addw rfl rfl rfl ?_
    refine l_move rfl rfl ?_
    refine l_nil ?_
    refine g_take (BigF j.toNat (crA P gr)) ?_
    refine g_frontv (.slice a47 rn c47) ?_
    refine g_snocb (crA P (upF gr j.toNat (a47, c47))) (by simp only [crA, upF_at, hp]) (fun k hk9 => by simp only [crA, upF_ne (show k ≠ j.toNat by omega)]) ?_
    refine g_take (BigF j.toNat (cqA P gq)) ?_
    refine g_frontv (.slice a53 qn c53) ?_
    refine g_snocb (cqA P (upF gq j.toNat (a53, c53))) (by simp only [cqA, upF_at, hp]) (fun k hk9 => by simp only [cqA, upF_ne (show k ≠ j.toNat by omega)]) ?_
    have hz9 := hzr.next (c := c47) (congrArg PartR.rn hp) ha47
    have hz8 := hzq.next (c := c53) (congrArg PartR.qn hp) ha53
    rw [show j.toNat + 1 = (j + 1).toNat by omega] at hz9 hz8 ⊢
    exact g_againi (ihj (j + 1, upF gr j.toNat (a47, c47), upF gq j.toNat (a53, c53), a60, c60) ⟨by simp only; omega, by simp only; omega, hz9, hz8⟩ (by simp only; omega)) (.cons rfl (.cons rfl (.cons rfl (.cons rfl (.cons rfl (.nil))))))
  intro hbr
  have hbr := of_decide_eq_false hbr
  refine g_exit rfl ?_
  obtain rfl : j = pn := by omega
  rw [Int.toNat_natCast] at hzr hzq ⊢
  refine g_frontv (.slice aQ pn cQ) ?_
  refine g_fact (own_nil2 (mem_getO 0 rfl)) ?_
  rintro ⟨_, haQ⟩
  refine g_seq ?_
  refine g_region ?_
  refine l_fieldAddr rfl fa_27_6 rfl ?_
  refine l_st Try.sizeOf25 rfl rfl rfl rfl ?_
  refine l_nil ?_
  refine g_seq ?_
  refine g_region ?_
  refine l_fieldAddr rfl fa_27_6 rfl ?_
  refine l_ld rfl Try.isAgg25 rfl rfl ?_
  refine l_fieldAddr rfl fa_27_6 rfl ?_
  refine l_ld rfl Try.isAgg25 rfl rfl ?_
  refine l_own_nil 82 3 ?_
  refine l_does rfl (does_appendT 0 (sz := 3) (by_ := 24) wLen wSc Try.underlying25 Try.type82 rfl rfl rfl rfl rfl rfl rfl rfl hH.ex nH (by omega) (by simp only [maxLen]; omega) (fun _ _ => rfl)) ?_
  rintro _ _ ⟨a68, c68, ha68, rfl, rfl⟩
  refine l_fieldAddr rfl fa_27_6 rfl ?_
  refine l_st Try.sizeOf25 rfl rfl rfl rfl ?_
  refine l_nil ?_
  refine g_seq ?_
  refine g_region ?_
  refine l_lds rfl Try.isAgg27 Try.sizeOf27 rfl rfl ?_
  refine l_sts Try.sizeOf27 rfl rfl rfl rfl rfl ?_
  refine l_nil ?_
  refine g_ret Try.func34 rfl (.cis rfl Try.isAgg27 Try.sizeOf27 rfl .nil) ?_
  exact Gives.mki ⟨g, gr, gq, aC, cC, aQ, cQ, a68, c68, rfl, ⟨haC, haQ, ha68, hz, hzr, hzq⟩, rfl⟩
def rwA (K : Nat → LX Win) (g : GA) (j : Nat) : Atom := Own 40 3 (.slice (g j).1 ((K j).n + 12) (g j).2) ((K j).n + 12) (rowsT winRow (rm WMk (K j).L 12))
def rrA (P : Nat → PartR) (g : GA) (j : Nat) : Atom := Own 78 4 (.slice (g j).1 ((P j).rn + 12) (g j).2) ((P j).rn + 12) (rowsT spanRow (rm RMk (P j).R 12))
def rqA (P : Nat → PartR) (g : GA) (j : Nat) : Atom := Own 80 2 (.slice (g j).1 ((P j).qn + 12) (g j).2) ((P j).qn + 12) (rowsT prtRow (rm PMk (P j).Q 12))
def saA (g : GA) (k : Nat) : Atom := Own 40 3 (.slice (g k).1 1 (g k).2) 1 (winRow (WMk k))
def slL (N : Nat → Nat) (g : GA) (m : Nat) : List Value := rowsN m fun j => [.slice (g j).1 (N j + 12) (g j).2]
theorem sl_push {N : Nat → Nat} {g : GA} {i n : Nat} {a : Option Addr} {c : Nat} (hn : N i = n) : slL N g i ++ [.slice a (n + 12) c] = slL N (upF g i (a, c)) (i + 1) := by
  have h := rowsN_pushI (r := fun (x : Option Addr × Nat) j => [.slice x.1 (N j + 12) x.2]) (K := i) (B := g) (x := (a, c))
  simp only [hn] at h
  simpa only [slL] using h
def NS (g : GA) (n : Nat) : Prop := ∀ j, j < n → ∃ b, (g j).1 = some ⟨b, 0, none⟩
theorem NS.next {g : GA} {i b c : Nat} (h : NS g i) : NS (upF g i (some ⟨b, 0, none⟩, c)) (i + 1) := fun j hj => by
  by_cases e : j = i
  · subst e; rw [upF_at]; exact ⟨b, rfl⟩
  · rw [upF_ne e]; exact h j (by omega)
theorem NS.zero (g : GA) : NS g 0 := fun j hj => absurd hj (Nat.not_lt_zero _)
def fC (K : Nat → LX Win) (g gs : GA) (cn j : Nat) : LX Win := if j < cn then cp (K j) (g j) else ⟨(gs (j - cn)).1, 1, (gs (j - cn)).2, [WMk (j - cn)]⟩
def fCL (K : Nat → LX Win) (g gs : GA) (cn N : Nat) : List Value := rowsN N fun j => [lxV (fC K g gs cn j)]
theorem fCL_start (K : Nat → LX Win) (g gs : GA) (cn : Nat) : cwL K g cn = fCL K g gs cn (cn + 0) := rowsN_congr fun k hk => by simp only [fC, if_pos hk]
theorem fCL_push {K : Nat → LX Win} {g gs : GA} {cn k : Nat} {a : Option Addr} {c : Nat} : fCL K g gs cn (cn + k) ++ [.slice a 1 c] = fCL K g (upF gs k (a, c)) cn (cn + (k + 1)) := by
  rw [fCL, fCL, ← Nat.add_assoc, rowsN_snoc]
  have h0 : ¬ cn + k < cn := by omega
  have h1 : cn + k - cn = k := by omega
  simp only [fC, if_neg h0, h1, upF_at, lxV]
  congr 1
  exact rowsN_congr fun j hj => by
    by_cases e : j < cn
    · simp only [if_pos e]
    · simp only [if_neg e, upF_ne (show j - cn ≠ k by omega)]
def fQ (P : Nat → PartR) (g h : GA) (pn j : Nat) : PartR := if j < pn then cpp (P j) (g j) (h j) else sppart ((j : Int) - pn)
def fQL (P : Nat → PartR) (g h : GA) (pn N : Nat) : List Value := rowsN N fun j => partRow (fQ P g h pn j)
theorem fQL_start (P : Nat → PartR) (g h : GA) (pn : Nat) : cpL P g h pn = fQL P g h pn (pn + 0) := rowsN_congr fun k hk => by simp only [fQ, if_pos hk]
theorem fQL_push {P : Nat → PartR} {g h : GA} {pn : Nat} {k : Int} (k0 : 0 ≤ k) : fQL P g h pn (pn + k.toNat) ++ [.string ⟨#[]⟩, .int .i64 (-70 - k), .int .i64 0, .int .i64 0, .int .i64 0, .int .i64 0, .slice none 0 0, .slice none 0 0] = fQL P g h pn (pn + (k + 1).toNat) := by
  rw [fQL, fQL, show pn + (k + 1).toNat = pn + k.toNat + 1 by omega, rowsN_snoc]
  have h0 : ¬ pn + k.toNat < pn := by omega
  have h1 : ((pn + k.toNat : Nat) : Int) - pn = k := by omega
  simp only [fQ, if_neg h0, h1]
  rfl
set_option maxHeartbeats 8000000 in
theorem rroomed_ok (w0 : World) (F : List Atom) (fr mj kr rr : Int) (ca pa ha : Option Addr) (cn cc pn pc hn hc : Nat) (K : Nat → LX Win) (P : Nat → PartR) (H : List Win) (hK : LLR winRow w0 F ca cn K) (hP : PXR w0 F pa pn P) (hH : TR winRow w0 F ha hn H) (nK : ∀ i, i < cn → (K i).a = none → (K i).c = 0) (nP : ∀ i, i < pn → ((P i).ra = none → (P i).rc = 0) ∧ ((P i).qa = none → (P i).qc = 0)) (nH : ha = none → hc = 0) (hcn : cn ≤ 2147483647) (hpn : pn ≤ 2147483647) (hhn : hn ≤ 2147483647) (hkn : ∀ i, i < cn → (K i).n ≤ 2147483647) (hpk : ∀ i, i < pn → (P i).rn ≤ 2147483647 ∧ (P i).qn ≤ 2147483647) :
    CallK Try.prog 31 [.agg [Value.int .i64 fr, .int .i64 mj, .int .i64 kr, .int .i64 rr, .slice ca cn cc, .slice pa pn pc, .slice ha hn hc].toArray] w0 (F) (Gives w0 fun v F2 => ∃ g gr gq gs gC cC gQ cQ gH cH aW cW aR cR aP cP, v = .tuple #[.agg [Value.int .i64 fr, .int .i64 mj, .int .i64 kr, .int .i64 rr, .slice (some ⟨gC, 0, none⟩) cn cC, .slice (some ⟨gQ, 0, none⟩) pn cQ, .slice (some ⟨gH, 0, none⟩) hn cH].toArray, .agg [Value.slice (some ⟨gC, 0, none⟩) (cn + 12) cC, .slice aW cn cW, .slice (some ⟨gQ, 0, none⟩) (pn + 12) cQ, .slice aR pn cR, .slice aP pn cP, .slice (some ⟨gH, 0, none⟩) (hn + 12) cH].toArray] ∧ (NS g cn ∧ NS gr pn ∧ NS gq pn ∧ NS gs 12 ∧ (cn = 0 ∨ ∃ b, aW = some ⟨b, 0, none⟩) ∧ (pn = 0 ∨ ∃ b, aR = some ⟨b, 0, none⟩) ∧ (pn = 0 ∨ ∃ b, aP = some ⟨b, 0, none⟩)) ∧ F2 = Own 38 1 (.slice (some ⟨gC, 0, none⟩) (cn + 12) cC) (cn + 12) (fCL K g gs cn (cn + 12)) :: Own 69 8 (.slice (some ⟨gQ, 0, none⟩) (pn + 12) cQ) (pn + 12) (fQL P gr gq pn (pn + 12)) :: Own 82 3 (.slice (some ⟨gH, 0, none⟩) (hn + 12) cH) (hn + 12) (rowsT winRow (rm WMk H 12)) :: BigF 12 (saA gs) :: Own 38 1 (.slice aW cn cW) cn (slL (fun j => (K j).n) g cn) :: BigF cn (rwA K g) :: Own 66 1 (.slice aR pn cR) pn (slL (fun j => (P j).rn) gr pn) :: Own 67 1 (.slice aP pn cP) pn (slL (fun j => (P j).qn) gq pn) :: BigF pn (rrA P gr) :: BigF pn (rqA P gq) :: F) := by
  refine c_enter Try.func31 rfl rfl rfl ?_
  refine g_seq ?_
  refine g_region ?_
  refine l_boxs rfl rfl ?_; intro b1
  refine l_allocs rfl Try.zeroValue27 ?_; intro b2
  refine l_allocs rfl Try.zeroValue60 ?_; intro b3
  refine l_nil ?_
  refine g_seq ?_
  refine g_region ?_
  refine l_allocs rfl Try.zeroValue60 ?_; intro b4
  refine l_nil ?_
  refine g_seq ?_
  refine g_seq ?_
  refine g_region ?_
  refine l_fieldAddr rfl fa_27_4 rfl ?_
  refine l_ld rfl Try.isAgg23 rfl rfl ?_
  refine l_len rfl Try.underlying23 rfl ?_
  refine l_move rfl rfl ?_
  refine l_nil ?_
  refine g_block ?_
  refine g_bigzero (rwA K fun _ => (none, 0)) ?_
  refine g_own_nil 38 1 ?_
  refine g_own_nil 38 1 ?_
  refine g_loopk (X := Int × GA × Option Addr × Nat × Option Addr × Nat) [(1, _), (2, _), (3, _), (4, _), (17, _)] (.cons rfl (.cons rfl (.cons rfl (.cons rfl (.cons rfl (.nil)))))) (fun z => 0 ≤ z.1 ∧ z.1 ≤ cn ∧ NS z.2.1 z.1.toNat) (fun z => (cn - z.1).toNat) (fun z => [(18, .int .i64 z.1)]) (fun z => Own 38 1 (.slice z.2.2.1 z.1.toNat z.2.2.2.1) z.1.toNat (slL (fun j => (K j).n) z.2.1 z.1.toNat) :: Own 38 1 (.slice z.2.2.2.2.1 z.1.toNat z.2.2.2.2.2) z.1.toNat (cwL K z.2.1 z.1.toNat) :: BigF z.1.toNat (rwA K z.2.1) :: Blk b4 (.cells [Value.slice z.2.2.2.2.1 z.1.toNat z.2.2.2.2.2, .slice z.2.2.1 z.1.toNat z.2.2.2.1, .slice none 0 0, .slice none 0 0, .slice none 0 0, .slice none 0 0].toArray 60 (0, 0)) :: Blk b1 (.cells [Value.int .i64 fr, .int .i64 mj, .int .i64 kr, .int .i64 rr, .slice ca cn cc, .slice pa pn pc, .slice ha hn hc].toArray 27 (0, 0)) :: Blk b2 (.cells [Value.int .i64 0, .int .i64 0, .int .i64 0, .int .i64 0, .slice none 0 0, .slice none 0 0, .slice none 0 0].toArray 27 (0, 0)) :: Blk b3 (.cells [Value.slice none 0 0, .slice none 0 0, .slice none 0 0, .slice none 0 0, .slice none 0 0, .slice none 0 0].toArray 60 (0, 0)) :: F) ((0, fun _ => (none, 0), none, 0, none, 0)) (⟨by simp only; omega, by simp only; omega, NS.zero _⟩) (.cons rfl .nil) (fun w hw => (SPI.holds hw : Holds w0 (Own 38 1 (.slice none 0 0) 0 [] :: Own 38 1 (.slice none 0 0) 0 [] :: BigF 0 (rwA K fun _ => (none, 0)) :: Blk b4 (.cells [Value.slice none 0 0, .slice none 0 0, .slice none 0 0, .slice none 0 0, .slice none 0 0, .slice none 0 0].toArray 60 (0, 0)) :: Blk b1 (.cells [Value.int .i64 fr, .int .i64 mj, .int .i64 kr, .int .i64 rr, .slice ca cn cc, .slice pa pn pc, .slice ha hn hc].toArray 27 (0, 0)) :: Blk b2 (.cells [Value.int .i64 0, .int .i64 0, .int .i64 0, .int .i64 0, .slice none 0 0, .slice none 0 0, .slice none 0 0].toArray 27 (0, 0)) :: Blk b3 (.cells [Value.slice none 0 0, .slice none 0 0, .slice none 0 0, .slice none 0 0, .slice none 0 0, .slice none 0 0].toArray 60 (0, 0)) :: F) w)) ?_
  rintro ⟨i, g, aW, cW, aC, cC⟩ ⟨i0, i1, hz⟩ ih
  dsimp only [List.cons_append, List.nil_append] at ih ⊢
  simp only at i0 i1 hz
  refine g_seq ?_
  refine g_region ?_
  refine l_lss rfl rfl rfl ?_
  refine l_nil ?_
  refine g_seq ?_
  refine g_cond rfl ?_ ?_
  · intro hbr
    have hbr := of_decide_eq_true hbr
    refine g_skip ?_
    refine g_seq ?_
    refine g_block ?_
    refine g_seq ?_
    refine g_region ?_
    refine l_move rfl rfl ?_
    refine l_assign rfl rfl ?_
    refine l_nil ?_
    refine g_seq ?_
    refine g_region ?_
    refine l_assign rfl rfl ?_
    refine l_nil ?_
    refine g_seq ?_
    refine g_region ?_
    refine l_move rfl rfl ?_
    refine l_fieldAddr rfl fa_27_4 rfl ?_
    refine l_ld rfl Try.isAgg23 rfl rfl ?_
    refine l_move rfl rfl ?_
    obtain ⟨⟨a, n, c, L⟩, hk⟩ : ∃ X, K i.toNat = X := ⟨_, rfl⟩
    have hn9 := hkn i.toNat (by omega)
    have hnc := nK i.toNat (by omega)
    rw [hk] at hn9 hnc
    replace hn9 : n ≤ 2147483647 := hn9
    replace hnc : a = none → c = 0 := hnc
    obtain ⟨b8, o8, rfl, hr8⟩ := hK.some (i := i.toNat) (by omega)
    refine l_ixs rfl Try.underlying23 Try.sizeOf38 rfl rfl (by omega) (by omega) ?_
    refine l_loadc rfl Try.isAgg38 rfl (lx_cell hr8 hk (by omega)) ?_
    refine l_own_nil 40 3 ?_
    refine l_does rfl (does_appendT 0 (sz := 3) (by_ := 24) wLen wSc Try.underlying38 Try.type40 rfl rfl rfl rfl rfl rfl rfl rfl (hK.tr hk (by omega)).ex hnc (by omega) (by simp only [maxLen]; omega) (fun _ _ => rfl)) ?_
    rintro _ _ ⟨a27, c27, ha27, rfl, rfl⟩
    refine l_assign rfl rfl ?_
    refine l_nil ?_
    refine g_seq ?_
    refine g_seq ?_
    refine g_region ?_
    refine l_move rfl rfl ?_
    refine l_nil ?_
    refine g_block ?_
    have hrz : rowsT winRow L = rowsT winRow (rm WMk L 0) := by rw [rm_zero]
    rw [hrz]
    refine g_loopk (X := Int × Option Addr × Nat) [(1, _), (2, _), (3, _), (4, _), (5, _), (17, _), (18, _), (19, _), (20, _), (21, _), (22, _), (23, _), (24, _), (25, _), (26, _), (27, _)] (.cons rfl (.cons rfl (.cons rfl (.cons rfl (.cons rfl (.cons rfl (.cons rfl (.cons rfl (.cons rfl (.cons rfl (.cons rfl (.cons rfl (.cons rfl (.cons rfl (.cons rfl (.cons rfl (.nil))))))))))))))))) (fun z => 0 ≤ z.1 ∧ z.1 ≤ 12) (fun z => (12 - z.1).toNat) (fun z => [(6, .slice z.2.1 (n + z.1.toNat) z.2.2), (28, .int .i64 z.1)]) (fun z => Own 40 3 (.slice z.2.1 (n + z.1.toNat) z.2.2) (n + z.1.toNat) (rowsT winRow (rm WMk L z.1.toNat)) :: Own 38 1 (.slice aW i.toNat cW) i.toNat (slL (fun j => (K j).n) g i.toNat) :: Own 38 1 (.slice aC i.toNat cC) i.toNat (cwL K g i.toNat) :: BigF i.toNat (rwA K g) :: Blk b4 (.cells [Value.slice aC i.toNat cC, .slice aW i.toNat cW, .slice none 0 0, .slice none 0 0, .slice none 0 0, .slice none 0 0].toArray 60 (0, 0)) :: Blk b1 (.cells [Value.int .i64 fr, .int .i64 mj, .int .i64 kr, .int .i64 rr, .slice (some ⟨b8, o8, none⟩) cn cc, .slice pa pn pc, .slice ha hn hc].toArray 27 (0, 0)) :: Blk b2 (.cells [Value.int .i64 0, .int .i64 0, .int .i64 0, .int .i64 0, .slice none 0 0, .slice none 0 0, .slice none 0 0].toArray 27 (0, 0)) :: Blk b3 (.cells [Value.slice none 0 0, .slice none 0 0, .slice none 0 0, .slice none 0 0, .slice none 0 0, .slice none 0 0].toArray 60 (0, 0)) :: F) ((0, a27, c27)) (⟨by simp only; omega, by simp only; omega⟩) (.cons rfl (.cons rfl .nil)) (fun w hw => (SPI.holds hw : Holds w0 (Own 40 3 (.slice a27 n c27) n (rowsT winRow (rm WMk L 0)) :: Own 38 1 (.slice aW i.toNat cW) i.toNat (slL (fun j => (K j).n) g i.toNat) :: Own 38 1 (.slice aC i.toNat cC) i.toNat (cwL K g i.toNat) :: BigF i.toNat (rwA K g) :: Blk b4 (.cells [Value.slice aC i.toNat cC, .slice aW i.toNat cW, .slice none 0 0, .slice none 0 0, .slice none 0 0, .slice none 0 0].toArray 60 (0, 0)) :: Blk b1 (.cells [Value.int .i64 fr, .int .i64 mj, .int .i64 kr, .int .i64 rr, .slice (some ⟨b8, o8, none⟩) cn cc, .slice pa pn pc, .slice ha hn hc].toArray 27 (0, 0)) :: Blk b2 (.cells [Value.int .i64 0, .int .i64 0, .int .i64 0, .int .i64 0, .slice none 0 0, .slice none 0 0, .slice none 0 0].toArray 27 (0, 0)) :: Blk b3 (.cells [Value.slice none 0 0, .slice none 0 0, .slice none 0 0, .slice none 0 0, .slice none 0 0, .slice none 0 0].toArray 60 (0, 0)) :: F) w)) ?_
    rintro ⟨k, a6, c6⟩ ⟨k0, k1⟩ ihk
    dsimp only [List.cons_append, List.nil_append] at ihk ⊢
    simp only at k0 k1
    refine g_seq ?_
    refine g_region ?_
    refine l_lss rfl rfl rfl ?_
    refine l_nil ?_
    refine g_seq ?_
    refine g_cond rfl ?_ ?_
    · intro hbr
      have hbr := of_decide_eq_true hbr
      refine g_skip ?_
      refine g_seq ?_
      refine g_block ?_
      refine g_seq ?_
      refine g_region ?_
      refine l_move rfl rfl ?_
      refine l_assign rfl rfl ?_
      refine l_nil ?_
      refine g_region ?_
      refine l_move rfl rfl ?_
      refine l_move rfl rfl ?_
      first | refine l_sub_ rfl rfl rfl (w_i64 (by omega) (by omega)) ?_ | refine l_subw rfl rfl rfl ?_
      refine l_build rfl rfl (fun w => bd_40_0 _ w) ?_
      refine l_buildSlice rfl Try.underlying38 Try.sizeOf40 Try.zeroValue40 rfl rfl rfl rfl rfl rfl ?_; intro b35
      refine l_does rfl (does_appendS 1 (sz := 3) (by_ := 24) (m2 := 1) (news := [.int .i64 (-70 - k), .int .i64 0, .int .i64 0]) (m3 := (n + (k + 1).toNat)) (X3 := rowsT winRow (rm WMk L (k + 1).toNat)) Try.underlying38 Try.type40 rfl rfl rfl rfl rfl rfl rfl rfl ⟨rfl, .inl ⟨_, _, _, rfl, .own (mem_getO 0 rfl)⟩⟩ rfl (by omega) (by simp only [maxLen]; omega) (by omega) (wm_push k0) (fun _ _ => rfl)) ?_
      rintro _ _ ⟨a36, c36, ha36, rfl, rfl⟩
      refine l_assign rfl rfl ?_
      refine l_nil ?_
      refine g_inBlock ?_
      refine g_region ?_
      first | refine l_add rfl rfl rfl (w_i64 (by omega) (by omega)) ?_ | refine l_addw rfl rfl rfl ?_
      refine l_move rfl rfl ?_
      refine l_nil ?_
      exact g_againi (ihk (k + 1, a36, c36) ⟨by simp only; omega, by simp only; omega⟩ (by simp only; omega)) (.cons rfl (.cons rfl (.cons rfl (.cons rfl (.cons rfl (.cons rfl (.cons rfl (.cons rfl (.cons rfl (.cons rfl (.cons rfl (.cons rfl (.cons rfl (.cons rfl (.cons rfl (.cons rfl (.cons rfl (.cons rfl (.nil)))))))))))))))))))
    intro hbr
    have hbr := of_decide_eq_false hbr
    refine g_exit rfl ?_
    obtain rfl : k = 12 := by omega
    rw [show (12 : Int).toNat = 12 from rfl]
    refine g_frontv (.slice a6 (n + 12) c6) ?_
    refine g_fact (own_some (mem_getO 0 rfl) (by omega)) ?_
    rintro ⟨g6, rfl, hg6⟩
    refine g_seq ?_
    refine g_region ?_
    refine l_fieldAddr rfl fa_60_1 rfl ?_
    refine l_ld rfl Try.isAgg23 rfl rfl ?_
    refine l_move rfl rfl ?_
    refine l_buildSlice rfl Try.underlying23 Try.sizeOf38 Try.zeroValue38 rfl rfl rfl rfl rfl rfl ?_; intro b41
    refine l_frontv (.slice aW i.toNat cW) ?_
    refine l_does rfl (does_appendS 0 (sz := 1) (by_ := 24) (m2 := 1) (news := [.slice (some ⟨g6, 0, none⟩) (n + 12) c6]) (m3 := (i + 1).toNat) (X3 := slL (fun j => (K j).n) (upF g i.toNat (some ⟨g6, 0, none⟩, c6)) (i + 1).toNat) Try.underlying23 Try.type38 rfl rfl rfl rfl rfl rfl rfl rfl ⟨rfl, .inl ⟨_, _, _, rfl, .own (mem_getO 1 rfl)⟩⟩ rfl (by omega) (by simp only [maxLen]; omega) (by omega) (by rw [sl_push (congrArg LX.n hk), show i.toNat + 1 = (i + 1).toNat by omega]) (fun _ _ => rfl)) ?_
    rintro _ _ ⟨a42, c42, ha42, rfl, rfl⟩
    refine l_fieldAddr rfl fa_60_1 rfl ?_
    refine l_st Try.sizeOf23 rfl rfl rfl rfl ?_
    refine l_nil ?_
    refine gp_start mo (by kernel_rfl) (by kernel_rfl) ?_
    refine gp_quiet 0 rfl rfl rfl rfl rfl rfl (q_fieldAddr fa_60_0 rfl) ?_
    refine gp_quiet 1 rfl rfl rfl rfl rfl rfl (q_ld Try.isAgg23 rfl rfl) ?_
    refine gp_quiet 2 rfl rfl rfl rfl rfl rfl (q_move rfl) ?_
    refine gp_quiet 3 rfl rfl rfl rfl rfl rfl (q_fieldAddr fa_27_4 rfl) ?_
    refine gp_quiet 4 rfl rfl rfl rfl rfl rfl (q_ld Try.isAgg23 rfl rfl) ?_
    refine gp_quiet 5 rfl rfl rfl rfl rfl rfl (q_move rfl) ?_
    refine gp_quiet 6 rfl rfl rfl rfl rfl rfl (q_ixs Try.underlying23 Try.sizeOf38 rfl rfl (by omega) (by omega)) ?_
    refine gp_quiet 7 rfl rfl rfl rfl rfl rfl (q_loadc Try.isAgg38 rfl (lx_cell hr8 hk (by omega))) ?_
    refine gp_quiet 8 rfl rfl rfl rfl rfl rfl (q_len Try.underlying38 rfl) ?_
    refine gp_quiet 9 rfl rfl rfl rfl rfl rfl (q_slice_hi Try.underlying38 Try.sizeOf40 rfl rfl (by omega) (by omega)) ?_
    refine gp_effa 10 [9] [8, 7, 6, 5, 4, 3, 2, 1, 0] rfl rfl rfl rfl rfl rfl rfl (does_buildSlice Try.underlying23 Try.sizeOf38 Try.zeroValue38 rfl rfl rfl rfl rfl rfl) ?_
    rintro _ _ ⟨b54, rfl, rfl⟩
    refine ⟨?_, ?_⟩
    · refine .cons rfl rfl rfl rfl rfl (q_len Try.underlying38 rfl) ?_
      refine .cons rfl rfl rfl rfl rfl (q_loadc Try.isAgg38 rfl (lx_cell hr8 hk (by omega))) ?_
      refine .cons rfl rfl rfl rfl rfl (q_ixs Try.underlying23 Try.sizeOf38 rfl rfl (by omega) (by omega)) ?_
      refine .cons rfl rfl rfl rfl rfl (q_move rfl) ?_
      refine .cons rfl rfl rfl rfl rfl (q_ld Try.isAgg23 rfl rfl) ?_
      refine .cons rfl rfl rfl rfl rfl (q_fieldAddr fa_27_4 rfl) ?_
      refine .cons rfl rfl rfl rfl rfl (q_move rfl) ?_
      refine .cons rfl rfl rfl rfl rfl (q_ld Try.isAgg23 rfl rfl) ?_
      refine .cons rfl rfl rfl rfl rfl (q_fieldAddr fa_60_0 rfl) ?_
      exact .nil
    refine gp_frontv (.slice aC i.toNat cC) ?_
    refine gp_effa 11 [1] [8, 7, 6, 5, 4, 3, 2, 0] rfl rfl rfl rfl rfl rfl rfl (does_appendS 0 (sz := 1) (by_ := 24) (m2 := 1) (news := [.slice (some ⟨g6, 0, none⟩) n c6]) (m3 := (i + 1).toNat) (X3 := cwL K (upF g i.toNat (some ⟨g6, 0, none⟩, c6)) (i + 1).toNat) Try.underlying23 Try.type38 rfl rfl rfl rfl rfl rfl rfl rfl ⟨rfl, .inl ⟨_, _, _, rfl, .own (mem_getO 1 rfl)⟩⟩ rfl (by omega) (by simp only [maxLen]; omega) (by omega) (by rw [cw_push hk rfl, show i.toNat + 1 = (i + 1).toNat by omega]) (fun _ _ => rfl)) ?_
    rintro _ _ ⟨a55, c55, ha55, rfl, rfl⟩
    refine ⟨?_, ?_⟩
    · refine .cons rfl rfl rfl rfl rfl (q_len Try.underlying38 rfl) ?_
      refine .cons rfl rfl rfl rfl rfl (q_loadc Try.isAgg38 rfl (lx_cell hr8 hk (by omega))) ?_
      refine .cons rfl rfl rfl rfl rfl (q_ixs Try.underlying23 Try.sizeOf38 rfl rfl (by omega) (by omega)) ?_
      refine .cons rfl rfl rfl rfl rfl (q_move rfl) ?_
      refine .cons rfl rfl rfl rfl rfl (q_ld Try.isAgg23 rfl rfl) ?_
      refine .cons rfl rfl rfl rfl rfl (q_fieldAddr fa_27_4 rfl) ?_
      refine .cons rfl rfl rfl rfl rfl (q_move rfl) ?_
      refine .cons rfl rfl rfl rfl rfl (q_fieldAddr fa_60_0 rfl) ?_
      exact .nil
    refine gp_quiet 12 rfl rfl rfl rfl rfl rfl (q_fieldAddr fa_60_0 rfl) ?_
    refine gp_effa 13 [0, 2, 3, 4, 5, 6, 7, 8, 12] [] rfl rfl rfl rfl rfl rfl rfl (does_st Try.sizeOf23 rfl rfl rfl rfl) ?_
    rintro _ _ ⟨rfl, rfl⟩
    refine ⟨?_, ?_⟩
    · exact .nil
    refine gp_end rfl rfl ?_
    refine g_inBlock ?_
    refine g_region ?_
    first | refine l_add rfl rfl rfl (w_i64 (by omega) (by omega)) ?_ | refine l_addw rfl rfl rfl ?_
    refine l_move rfl rfl ?_
    refine l_nil ?_
    refine g_take (BigF i.toNat (rwA K g)) ?_
    refine g_frontv (.slice (some ⟨g6, 0, none⟩) (n + 12) c6) ?_
    refine g_snocb (rwA K (upF g i.toNat (some ⟨g6, 0, none⟩, c6))) (by simp only [rwA, upF_at, hk]) (fun k hk9 => by simp only [rwA, upF_ne (show k ≠ i.toNat by omega)]) ?_
    have hz9 := hz.next (b := g6) (c := c6)
    rw [show i.toNat + 1 = (i + 1).toNat by omega] at hz9 ⊢
    exact g_againi (ih (i + 1, (upF g i.toNat (some ⟨g6, 0, none⟩, c6)), a42, c42, a55, c55) ⟨by simp only; omega, by simp only; omega, hz9⟩ (by simp only; omega)) (.cons rfl (.cons rfl (.cons rfl (.cons rfl (.cons rfl (.cons rfl (.nil)))))))
  intro hbr
  have hbr := of_decide_eq_false hbr
  refine g_exit rfl ?_
  obtain rfl : i = cn := by omega
  rw [Int.toNat_natCast] at hz ⊢
  refine g_seq ?_
  refine g_seq ?_
  refine g_region ?_
  refine l_fieldAddr rfl fa_27_5 rfl ?_
  refine l_ld rfl Try.isAgg24 rfl rfl ?_
  refine l_len rfl Try.underlying24 rfl ?_
  refine l_move rfl rfl ?_
  refine l_nil ?_
  refine g_block ?_
  refine g_bigzero (rrA P fun _ => (none, 0)) ?_
  refine g_bigzero (rqA P fun _ => (none, 0)) ?_
  refine g_own_nil 69 8 ?_
  refine g_own_nil 66 1 ?_
  refine g_own_nil 67 1 ?_
  refine g_loopk (X := Int × GA × GA × Option Addr × Nat × Option Addr × Nat × Option Addr × Nat) [(1, _), (2, _), (3, _), (4, _), (60, _)] (.cons rfl (.cons rfl (.cons rfl (.cons rfl (.cons rfl (.nil)))))) (fun z => 0 ≤ z.1 ∧ z.1 ≤ pn ∧ NS z.2.1 z.1.toNat ∧ NS z.2.2.1 z.1.toNat) (fun z => (pn - z.1).toNat) (fun z => [(61, .int .i64 z.1)]) (fun z => Own 66 1 (.slice z.2.2.2.1 z.1.toNat z.2.2.2.2.1) z.1.toNat (slL (fun j => (P j).rn) z.2.1 z.1.toNat) :: Own 67 1 (.slice z.2.2.2.2.2.1 z.1.toNat z.2.2.2.2.2.2.1) z.1.toNat (slL (fun j => (P j).qn) z.2.2.1 z.1.toNat) :: Own 69 8 (.slice z.2.2.2.2.2.2.2.1 z.1.toNat z.2.2.2.2.2.2.2.2) z.1.toNat (cpL P z.2.1 z.2.2.1 z.1.toNat) :: BigF z.1.toNat (rrA P z.2.1) :: BigF z.1.toNat (rqA P z.2.2.1) :: Blk b4 (.cells [Value.slice aC cn cC, .slice aW cn cW, .slice z.2.2.2.2.2.2.2.1 z.1.toNat z.2.2.2.2.2.2.2.2, .slice z.2.2.2.1 z.1.toNat z.2.2.2.2.1, .slice z.2.2.2.2.2.1 z.1.toNat z.2.2.2.2.2.2.1, .slice none 0 0].toArray 60 (0, 0)) :: Own 38 1 (.slice aW cn cW) cn (slL (fun j => (K j).n) g cn) :: Own 38 1 (.slice aC cn cC) cn (cwL K g cn) :: BigF cn (rwA K g) :: Blk b1 (.cells [Value.int .i64 fr, .int .i64 mj, .int .i64 kr, .int .i64 rr, .slice ca cn cc, .slice pa pn pc, .slice ha hn hc].toArray 27 (0, 0)) :: Blk b2 (.cells [Value.int .i64 0, .int .i64 0, .int .i64 0, .int .i64 0, .slice none 0 0, .slice none 0 0, .slice none 0 0].toArray 27 (0, 0)) :: Blk b3 (.cells [Value.slice none 0 0, .slice none 0 0, .slice none 0 0, .slice none 0 0, .slice none 0 0, .slice none 0 0].toArray 60 (0, 0)) :: F) ((0, fun _ => (none, 0), fun _ => (none, 0), none, 0, none, 0, none, 0)) (⟨by simp only; omega, by simp only; omega, NS.zero _, NS.zero _⟩) (.cons rfl .nil) (fun w hw => (SPI.holds hw : Holds w0 (Own 66 1 (.slice none 0 0) 0 [] :: Own 67 1 (.slice none 0 0) 0 [] :: Own 69 8 (.slice none 0 0) 0 [] :: BigF 0 (rrA P fun _ => (none, 0)) :: BigF 0 (rqA P fun _ => (none, 0)) :: Blk b4 (.cells [Value.slice aC cn cC, .slice aW cn cW, .slice none 0 0, .slice none 0 0, .slice none 0 0, .slice none 0 0].toArray 60 (0, 0)) :: Own 38 1 (.slice aW cn cW) cn (slL (fun j => (K j).n) g cn) :: Own 38 1 (.slice aC cn cC) cn (cwL K g cn) :: BigF cn (rwA K g) :: Blk b1 (.cells [Value.int .i64 fr, .int .i64 mj, .int .i64 kr, .int .i64 rr, .slice ca cn cc, .slice pa pn pc, .slice ha hn hc].toArray 27 (0, 0)) :: Blk b2 (.cells [Value.int .i64 0, .int .i64 0, .int .i64 0, .int .i64 0, .slice none 0 0, .slice none 0 0, .slice none 0 0].toArray 27 (0, 0)) :: Blk b3 (.cells [Value.slice none 0 0, .slice none 0 0, .slice none 0 0, .slice none 0 0, .slice none 0 0, .slice none 0 0].toArray 60 (0, 0)) :: F) w)) ?_
  rintro ⟨j, gr, gq, aR, cR, aP, cP, aQ, cQ⟩ ⟨j0, j1, hzr, hzq⟩ ihj
  dsimp only [List.cons_append, List.nil_append] at ihj ⊢
  simp only at j0 j1 hzr hzq
  refine g_seq ?_
  refine g_region ?_
  refine l_lss rfl rfl rfl ?_
  refine l_nil ?_
  refine g_seq ?_
  refine g_cond rfl ?_ ?_
  · intro hbr
    have hbr := of_decide_eq_true hbr
    refine g_skip ?_
    refine g_seq ?_
    refine g_block ?_
    refine g_seq ?_
    refine g_region ?_
    refine l_move rfl rfl ?_
    refine l_assign rfl rfl ?_
    refine l_nil ?_
    refine g_seq ?_
    refine g_region ?_
    refine l_fieldAddr rfl fa_27_5 rfl ?_
    refine l_ld rfl Try.isAgg24 rfl rfl ?_
    refine l_move rfl rfl ?_
    obtain ⟨⟨nm, e1, e2, e3, e4, e5, ra, rn, rc, R, qa, qn, qc, Q⟩, hp⟩ : ∃ X, P j.toNat = X := ⟨_, rfl⟩
    have hn8 := hpk j.toNat (by omega)
    have hnc := nP j.toNat (by omega)
    rw [hp] at hn8 hnc
    obtain ⟨hn8, hn7⟩ : rn ≤ 2147483647 ∧ qn ≤ 2147483647 := hn8
    obtain ⟨hnr, hnq⟩ : (ra = none → rc = 0) ∧ (qa = none → qc = 0) := hnc
    obtain ⟨b8, o8, rfl, hr8⟩ := hP.some (i := j.toNat) (by omega)
    refine l_ixs rfl Try.underlying24 Try.sizeOf69 rfl rfl (by omega) (by omega) ?_
    refine l_loadr (l := [.string nm, .int .i64 e1, .int .i64 e2, .int .i64 e3, .int .i64 e4, .int .i64 e5, .slice ra rn rc, .slice qa qn qc]) rfl Try.isAgg69 Try.sizeOf69 rfl rfl (px_row hr8 hp (by omega)) ?_
    refine l_allocs rfl Try.zeroValue69 ?_; intro b9
    refine l_sts Try.sizeOf69 rfl rfl rfl rfl rfl ?_
    refine l_nil ?_
    refine g_seq ?_
    refine g_region ?_
    refine l_assign rfl rfl ?_
    refine l_nil ?_
    refine g_seq ?_
    refine g_region ?_
    refine l_move rfl rfl ?_
    refine l_fieldAddr rfl fa_69_6 rfl ?_
    refine l_ld rfl Try.isAgg66 rfl rfl ?_
    refine l_own_nil 78 4 ?_
    refine l_does rfl (does_appendT 0 (sz := 4) (by_ := 32) rLen rSc Try.underlying66 Try.type78 rfl rfl rfl rfl rfl rfl rfl rfl (hP.trR hp (by omega)).ex hnr (by omega) (by simp only [maxLen]; omega) (fun _ _ => rfl)) ?_
    rintro _ _ ⟨a72, c72, ha72, rfl, rfl⟩
    refine l_assign rfl rfl ?_
    refine l_nil ?_
    refine g_seq ?_
    refine g_region ?_
    refine l_assign rfl rfl ?_
    refine l_nil ?_
    refine g_seq ?_
    refine g_region ?_
    refine l_move rfl rfl ?_
    refine l_fieldAddr rfl fa_69_7 rfl ?_
    refine l_ld rfl Try.isAgg67 rfl rfl ?_
    refine l_own_nil 80 2 ?_
    refine l_does rfl (does_appendT 0 (sz := 2) (by_ := 16) pLen pSc Try.underlying67 Try.type80 rfl rfl rfl rfl rfl rfl rfl rfl (hP.trQ hp (by omega)).ex hnq (by omega) (by simp only [maxLen]; omega) (fun _ _ => rfl)) ?_
    rintro _ _ ⟨a76, c76, ha76, rfl, rfl⟩
    refine l_assign rfl rfl ?_
    refine l_nil ?_
    refine g_seq ?_
    refine g_seq ?_
    refine g_region ?_
    refine l_move rfl rfl ?_
    refine l_nil ?_
    refine g_block ?_
    have hrz : rowsT spanRow R = rowsT spanRow (rm RMk R 0) := by rw [rm_zero]
    have hqz : rowsT prtRow Q = rowsT prtRow (rm PMk Q 0) := by rw [rm_zero]
    rw [hrz, hqz]
    refine g_loopk (X := Int × Option Addr × Nat × Option Addr × Nat) [(1, _), (2, _), (3, _), (4, _), (8, _), (9, _), (60, _), (61, _), (62, _), (63, _), (64, _), (65, _), (66, _), (67, _), (68, _), (69, _), (70, _), (71, _), (72, _), (73, _), (74, _), (75, _), (76, _)] (.cons rfl (.cons rfl (.cons rfl (.cons rfl (.cons rfl (.cons rfl (.cons rfl (.cons rfl (.cons rfl (.cons rfl (.cons rfl (.cons rfl (.cons rfl (.cons rfl (.cons rfl (.cons rfl (.cons rfl (.cons rfl (.cons rfl (.cons rfl (.cons rfl (.cons rfl (.cons rfl (.nil)))))))))))))))))))))))) (fun z => 0 ≤ z.1 ∧ z.1 ≤ 12) (fun z => (12 - z.1).toNat) (fun z => [(10, .slice z.2.1 (rn + z.1.toNat) z.2.2.1), (11, .slice z.2.2.2.1 (qn + z.1.toNat) z.2.2.2.2), (77, .int .i64 z.1)]) (fun z => Own 78 4 (.slice z.2.1 (rn + z.1.toNat) z.2.2.1) (rn + z.1.toNat) (rowsT spanRow (rm RMk R z.1.toNat)) :: Own 80 2 (.slice z.2.2.2.1 (qn + z.1.toNat) z.2.2.2.2) (qn + z.1.toNat) (rowsT prtRow (rm PMk Q z.1.toNat)) :: Blk b9 (.cells [Value.string nm, .int .i64 e1, .int .i64 e2, .int .i64 e3, .int .i64 e4, .int .i64 e5, .slice ra rn rc, .slice qa qn qc].toArray 69 (0, 0)) :: Own 66 1 (.slice aR j.toNat cR) j.toNat (slL (fun j => (P j).rn) gr j.toNat) :: Own 67 1 (.slice aP j.toNat cP) j.toNat (slL (fun j => (P j).qn) gq j.toNat) :: Own 69 8 (.slice aQ j.toNat cQ) j.toNat (cpL P gr gq j.toNat) :: BigF j.toNat (rrA P gr) :: BigF j.toNat (rqA P gq) :: Blk b4 (.cells [Value.slice aC cn cC, .slice aW cn cW, .slice aQ j.toNat cQ, .slice aR j.toNat cR, .slice aP j.toNat cP, .slice none 0 0].toArray 60 (0, 0)) :: Own 38 1 (.slice aW cn cW) cn (slL (fun j => (K j).n) g cn) :: Own 38 1 (.slice aC cn cC) cn (cwL K g cn) :: BigF cn (rwA K g) :: Blk b1 (.cells [Value.int .i64 fr, .int .i64 mj, .int .i64 kr, .int .i64 rr, .slice ca cn cc, .slice (some ⟨b8, o8, none⟩) pn pc, .slice ha hn hc].toArray 27 (0, 0)) :: Blk b2 (.cells [Value.int .i64 0, .int .i64 0, .int .i64 0, .int .i64 0, .slice none 0 0, .slice none 0 0, .slice none 0 0].toArray 27 (0, 0)) :: Blk b3 (.cells [Value.slice none 0 0, .slice none 0 0, .slice none 0 0, .slice none 0 0, .slice none 0 0, .slice none 0 0].toArray 60 (0, 0)) :: F) ((0, a72, c72, a76, c76)) (⟨by simp only; omega, by simp only; omega⟩) (.cons rfl (.cons rfl (.cons rfl .nil))) (fun w hw => (SPI.holds hw : Holds w0 (Own 78 4 (.slice a72 rn c72) rn (rowsT spanRow (rm RMk R 0)) :: Own 80 2 (.slice a76 qn c76) qn (rowsT prtRow (rm PMk Q 0)) :: Blk b9 (.cells [Value.string nm, .int .i64 e1, .int .i64 e2, .int .i64 e3, .int .i64 e4, .int .i64 e5, .slice ra rn rc, .slice qa qn qc].toArray 69 (0, 0)) :: Own 66 1 (.slice aR j.toNat cR) j.toNat (slL (fun j => (P j).rn) gr j.toNat) :: Own 67 1 (.slice aP j.toNat cP) j.toNat (slL (fun j => (P j).qn) gq j.toNat) :: Own 69 8 (.slice aQ j.toNat cQ) j.toNat (cpL P gr gq j.toNat) :: BigF j.toNat (rrA P gr) :: BigF j.toNat (rqA P gq) :: Blk b4 (.cells [Value.slice aC cn cC, .slice aW cn cW, .slice aQ j.toNat cQ, .slice aR j.toNat cR, .slice aP j.toNat cP, .slice none 0 0].toArray 60 (0, 0)) :: Own 38 1 (.slice aW cn cW) cn (slL (fun j => (K j).n) g cn) :: Own 38 1 (.slice aC cn cC) cn (cwL K g cn) :: BigF cn (rwA K g) :: Blk b1 (.cells [Value.int .i64 fr, .int .i64 mj, .int .i64 kr, .int .i64 rr, .slice ca cn cc, .slice (some ⟨b8, o8, none⟩) pn pc, .slice ha hn hc].toArray 27 (0, 0)) :: Blk b2 (.cells [Value.int .i64 0, .int .i64 0, .int .i64 0, .int .i64 0, .slice none 0 0, .slice none 0 0, .slice none 0 0].toArray 27 (0, 0)) :: Blk b3 (.cells [Value.slice none 0 0, .slice none 0 0, .slice none 0 0, .slice none 0 0, .slice none 0 0, .slice none 0 0].toArray 60 (0, 0)) :: F) w)) ?_
    rintro ⟨k, a10, c10, a11, c11⟩ ⟨k0, k1⟩ ihk
    dsimp only [List.cons_append, List.nil_append] at ihk ⊢
    simp only at k0 k1
    refine g_seq ?_
    refine g_region ?_
    refine l_lss rfl rfl rfl ?_
    refine l_nil ?_
    refine g_seq ?_
    refine g_cond rfl ?_ ?_
    · intro hbr
      have hbr := of_decide_eq_true hbr
      refine g_skip ?_
      refine g_seq ?_
      refine g_block ?_
      refine g_seq ?_
      refine g_region ?_
      refine l_move rfl rfl ?_
      refine l_assign rfl rfl ?_
      refine l_nil ?_
      refine g_seq ?_
      refine g_region ?_
      refine l_move rfl rfl ?_
      refine l_move rfl rfl ?_
      first | refine l_sub_ rfl rfl rfl (w_i64 (by omega) (by omega)) ?_ | refine l_subw rfl rfl rfl ?_
      refine l_build rfl rfl (fun w => bd_78_0 _ w) ?_
      refine l_buildSlice rfl Try.underlying66 Try.sizeOf78 Try.zeroValue78 rfl rfl rfl rfl rfl rfl ?_; intro b84
      refine l_does rfl (does_appendS 1 (sz := 4) (by_ := 32) (m2 := 1) (news := [.int .i64 (-70 - k), .int .i64 0, .int .i64 0, .int .i64 0]) (m3 := (rn + (k + 1).toNat)) (X3 := rowsT spanRow (rm RMk R (k + 1).toNat)) Try.underlying66 Try.type78 rfl rfl rfl rfl rfl rfl rfl rfl ⟨rfl, .inl ⟨_, _, _, rfl, .own (mem_getO 0 rfl)⟩⟩ rfl (by omega) (by simp only [maxLen]; omega) (by omega) (rm_pushR k0) (fun _ _ => rfl)) ?_
      rintro _ _ ⟨a85, c85, ha85, rfl, rfl⟩
      refine l_assign rfl rfl ?_
      refine l_nil ?_
      refine g_region ?_
      refine l_move rfl rfl ?_
      refine l_move rfl rfl ?_
      first | refine l_sub_ rfl rfl rfl (w_i64 (by omega) (by omega)) ?_ | refine l_subw rfl rfl rfl ?_
      refine l_build rfl rfl (fun w => bd_80_0 _ w) ?_
      refine l_buildSlice rfl Try.underlying67 Try.sizeOf80 Try.zeroValue80 rfl rfl rfl rfl rfl rfl ?_; intro b90
      refine l_frontv (.slice a11 (qn + k.toNat) c11) ?_
      refine l_does rfl (does_appendS 0 (sz := 2) (by_ := 16) (m2 := 1) (news := [.int .i64 (-70 - k), .bool false]) (m3 := (qn + (k + 1).toNat)) (X3 := rowsT prtRow (rm PMk Q (k + 1).toNat)) Try.underlying67 Try.type80 rfl rfl rfl rfl rfl rfl rfl rfl ⟨rfl, .inl ⟨_, _, _, rfl, .own (mem_getO 1 rfl)⟩⟩ rfl (by omega) (by simp only [maxLen]; omega) (by omega) (rm_pushP k0) (fun _ _ => rfl)) ?_
      rintro _ _ ⟨a91, c91, ha91, rfl, rfl⟩
      refine l_assign rfl rfl ?_
      refine l_nil ?_
      refine g_inBlock ?_
      refine g_region ?_
      first | refine l_add rfl rfl rfl (w_i64 (by omega) (by omega)) ?_ | refine l_addw rfl rfl rfl ?_
      refine l_move rfl rfl ?_
      refine l_nil ?_
      exact g_againi (ihk (k + 1, a85, c85, a91, c91) ⟨by simp only; omega, by simp only; omega⟩ (by simp only; omega)) (.cons rfl (.cons rfl (.cons rfl (.cons rfl (.cons rfl (.cons rfl (.cons rfl (.cons rfl (.cons rfl (.cons rfl (.cons rfl (.cons rfl (.cons rfl (.cons rfl (.cons rfl (.cons rfl (.cons rfl (.cons rfl (.cons rfl (.cons rfl (.cons rfl (.cons rfl (.cons rfl (.cons rfl (.cons rfl (.cons rfl (.nil)))))))))))))))))))))))))))
    intro hbr
    have hbr := of_decide_eq_false hbr
    refine g_exit rfl ?_
    obtain rfl : k = 12 := by omega
    rw [show (12 : Int).toNat = 12 from rfl]
    refine g_frontv (.slice a10 (rn + 12) c10) ?_
    refine g_fact (own_some (mem_getO 0 rfl) (by omega)) ?_
    rintro ⟨g10, rfl, hg10⟩
    refine g_frontv (.slice a11 (qn + 12) c11) ?_
    refine g_fact (own_some (mem_getO 0 rfl) (by omega)) ?_
    rintro ⟨g11, rfl, hg11⟩
    refine g_seq ?_
    refine g_region ?_
    refine l_fieldAddr rfl fa_60_3 rfl ?_
    refine l_ld rfl Try.isAgg57 rfl rfl ?_
    refine l_move rfl rfl ?_
    refine l_buildSlice rfl Try.underlying57 Try.sizeOf66 Try.zeroValue66 rfl rfl rfl rfl rfl rfl ?_; intro b96
    refine l_frontv (.slice aR j.toNat cR) ?_
    refine l_does rfl (does_appendS 0 (sz := 1) (by_ := 24) (m2 := 1) (news := [.slice (some ⟨g10, 0, none⟩) (rn + 12) c10]) (m3 := (j + 1).toNat) (X3 := slL (fun j => (P j).rn) (upF gr j.toNat (some ⟨g10, 0, none⟩, c10)) (j + 1).toNat) Try.underlying57 Try.type66 rfl rfl rfl rfl rfl rfl rfl rfl ⟨rfl, .inl ⟨_, _, _, rfl, .own (mem_getO 1 rfl)⟩⟩ rfl (by omega) (by simp only [maxLen]; omega) (by omega) (by rw [sl_push (congrArg PartR.rn hp), show j.toNat + 1 = (j + 1).toNat by omega]) (fun _ _ => rfl)) ?_
    rintro _ _ ⟨a97, c97, ha97, rfl, rfl⟩
    refine l_fieldAddr rfl fa_60_3 rfl ?_
    refine l_st Try.sizeOf57 rfl rfl rfl rfl ?_
    refine l_nil ?_
    refine g_seq ?_
    refine g_region ?_
    refine l_fieldAddr rfl fa_60_4 rfl ?_
    refine l_ld rfl Try.isAgg58 rfl rfl ?_
    refine l_move rfl rfl ?_
    refine l_buildSlice rfl Try.underlying58 Try.sizeOf67 Try.zeroValue67 rfl rfl rfl rfl rfl rfl ?_; intro b102
    refine l_frontv (.slice aP j.toNat cP) ?_
    refine l_does rfl (does_appendS 0 (sz := 1) (by_ := 24) (m2 := 1) (news := [.slice (some ⟨g11, 0, none⟩) (qn + 12) c11]) (m3 := (j + 1).toNat) (X3 := slL (fun j => (P j).qn) (upF gq j.toNat (some ⟨g11, 0, none⟩, c11)) (j + 1).toNat) Try.underlying58 Try.type67 rfl rfl rfl rfl rfl rfl rfl rfl ⟨rfl, .inl ⟨_, _, _, rfl, .own (mem_getO 1 rfl)⟩⟩ rfl (by omega) (by simp only [maxLen]; omega) (by omega) (by rw [sl_push (congrArg PartR.qn hp), show j.toNat + 1 = (j + 1).toNat by omega]) (fun _ _ => rfl)) ?_
    rintro _ _ ⟨a103, c103, ha103, rfl, rfl⟩
    refine l_fieldAddr rfl fa_60_4 rfl ?_
    refine l_st Try.sizeOf58 rfl rfl rfl rfl ?_
    refine l_nil ?_
    refine g_seq ?_
    refine g_region ?_
    refine l_move rfl rfl ?_
    refine l_fieldAddr rfl fa_69_6 rfl ?_
    refine l_ld rfl Try.isAgg66 rfl rfl ?_
    refine l_len rfl Try.underlying66 rfl ?_
    refine l_slice_hi rfl Try.underlying66 Try.sizeOf78 rfl rfl (by omega) (by omega) ?_
    refine l_fieldAddr rfl fa_69_6 rfl ?_
    refine l_st Try.sizeOf66 rfl rfl rfl rfl ?_
    refine l_nil ?_
    refine g_seq ?_
    refine g_region ?_
    refine l_move rfl rfl ?_
    refine l_fieldAddr rfl fa_69_7 rfl ?_
    refine l_ld rfl Try.isAgg67 rfl rfl ?_
    refine l_len rfl Try.underlying67 rfl ?_
    refine l_slice_hi rfl Try.underlying67 Try.sizeOf80 rfl rfl (by omega) (by omega) ?_
    refine l_fieldAddr rfl fa_69_7 rfl ?_
    refine l_st Try.sizeOf67 rfl rfl rfl rfl ?_
    refine l_nil ?_
    refine g_region ?_
    refine l_fieldAddr rfl fa_60_2 rfl ?_
    refine l_ld rfl Try.isAgg24 rfl rfl ?_
    refine l_lds rfl Try.isAgg69 Try.sizeOf69 rfl rfl ?_
    refine l_buildSlice rfl Try.underlying24 Try.sizeOf69 Try.zeroValue69 rfl rfl rfl rfl rfl rfl ?_; intro b120
    refine l_frontv (.slice aQ j.toNat cQ) ?_
    refine l_does rfl (does_appendS 0 (sz := 8) (by_ := 104) (m2 := 1) (news := [.string nm, .int .i64 e1, .int .i64 e2, .int .i64 e3, .int .i64 e4, .int .i64 e5, .slice (some ⟨g10, 0, none⟩) rn c10, .slice (some ⟨g11, 0, none⟩) qn c11]) (m3 := (j + 1).toNat) (X3 := cpL P (upF gr j.toNat (some ⟨g10, 0, none⟩, c10)) (upF gq j.toNat (some ⟨g11, 0, none⟩, c11)) (j + 1).toNat) Try.underlying24 Try.type69 rfl rfl rfl rfl rfl rfl rfl rfl ⟨rfl, .inl ⟨_, _, _, rfl, .own (mem_getO 1 rfl)⟩⟩ rfl (by omega) (by simp only [maxLen]; omega) (by omega) (by have h9 := cp_push (g := gr) (h := gq) (a := (some ⟨g10, 0, none⟩, c10)) (b := (some ⟨g11, 0, none⟩, c11)) hp; rw [show j.toNat + 1 = (j + 1).toNat by omega] at h9; exact h9) (fun _ _ => rfl)) ?_
    rintro _ _ ⟨a121, c121, ha121, rfl, rfl⟩
    refine l_fieldAddr rfl fa_60_2 rfl ?_
    refine l_st Try.sizeOf24 rfl rfl rfl rfl ?_
    refine l_nil ?_
    refine g_inBlock ?_
    refine g_region ?_
    first | refine l_add rfl rfl rfl (w_i64 (by omega) (by omega)) ?_ | refine l_addw rfl rfl rfl ?_
    refine l_move rfl rfl ?_
    refine l_nil ?_
    refine g_take (BigF j.toNat (rrA P gr)) ?_
    refine g_frontv (.slice (some ⟨g10, 0, none⟩) (rn + 12) c10) ?_
    refine g_snocb (rrA P (upF gr j.toNat (some ⟨g10, 0, none⟩, c10))) (by simp only [rrA, upF_at, hp]) (fun k hk9 => by simp only [rrA, upF_ne (show k ≠ j.toNat by omega)]) ?_
    refine g_take (BigF j.toNat (rqA P gq)) ?_
    refine g_frontv (.slice (some ⟨g11, 0, none⟩) (qn + 12) c11) ?_
    refine g_snocb (rqA P (upF gq j.toNat (some ⟨g11, 0, none⟩, c11))) (by simp only [rqA, upF_at, hp]) (fun k hk9 => by simp only [rqA, upF_ne (show k ≠ j.toNat by omega)]) ?_
    have hz9 := hzr.next (b := g10) (c := c10)
    have hz8 := hzq.next (b := g11) (c := c11)
    rw [show j.toNat + 1 = (j + 1).toNat by omega] at hz9 hz8 ⊢
    exact g_againi (ihj (j + 1, (upF gr j.toNat (some ⟨g10, 0, none⟩, c10)), (upF gq j.toNat (some ⟨g11, 0, none⟩, c11)), a97, c97, a103, c103, a121, c121) ⟨by simp only; omega, by simp only; omega, hz9, hz8⟩ (by simp only; omega)) (.cons rfl (.cons rfl (.cons rfl (.cons rfl (.cons rfl (.cons rfl (.nil)))))))
  intro hbr
  have hbr := of_decide_eq_false hbr
  refine g_exit rfl ?_
  obtain rfl : j = pn := by omega
  rw [Int.toNat_natCast] at hzr hzq ⊢
  refine g_seq ?_
  refine g_region ?_
  refine l_fieldAddr rfl fa_60_5 rfl ?_
  refine l_ld rfl Try.isAgg25 rfl rfl ?_
  refine l_fieldAddr rfl fa_27_6 rfl ?_
  refine l_ld rfl Try.isAgg25 rfl rfl ?_
  refine l_own_nil 82 3 ?_
  refine l_does rfl (does_appendT 0 (sz := 3) (by_ := 24) wLen wSc Try.underlying25 Try.type82 rfl rfl rfl rfl rfl rfl rfl rfl hH.ex nH (by omega) (by simp only [maxLen]; omega) (fun _ _ => rfl)) ?_
  rintro _ _ ⟨a128, c128, ha128, rfl, rfl⟩
  refine l_fieldAddr rfl fa_60_5 rfl ?_
  refine l_st Try.sizeOf25 rfl rfl rfl rfl ?_
  refine l_nil ?_
  refine g_seq ?_
  refine g_seq ?_
  refine g_region ?_
  refine l_move rfl rfl ?_
  refine l_nil ?_
  refine g_block ?_
  refine g_bigzero (saA fun _ => (none, 0)) ?_
  have hhz : rowsT winRow H = rowsT winRow (rm WMk H 0) := by rw [rm_zero]
  rw [hhz, fCL_start K g (fun _ => (none, 0)) cn, fQL_start P gr gq pn]
  refine g_loopk (X := Int × GA × Option Addr × Nat × Option Addr × Nat × Option Addr × Nat) [(1, _), (2, _), (3, _), (4, _)] (.cons rfl (.cons rfl (.cons rfl (.cons rfl (.nil))))) (fun z => 0 ≤ z.1 ∧ z.1 ≤ 12 ∧ NS z.2.1 z.1.toNat) (fun z => (12 - z.1).toNat) (fun z => [(130, .int .i64 z.1)]) (fun z => Own 38 1 (.slice z.2.2.1 (cn + z.1.toNat) z.2.2.2.1) (cn + z.1.toNat) (fCL K g z.2.1 cn (cn + z.1.toNat)) :: Own 69 8 (.slice z.2.2.2.2.1 (pn + z.1.toNat) z.2.2.2.2.2.1) (pn + z.1.toNat) (fQL P gr gq pn (pn + z.1.toNat)) :: Own 82 3 (.slice z.2.2.2.2.2.2.1 (hn + z.1.toNat) z.2.2.2.2.2.2.2) (hn + z.1.toNat) (rowsT winRow (rm WMk H z.1.toNat)) :: BigF z.1.toNat (saA z.2.1) :: Blk b4 (.cells [Value.slice z.2.2.1 (cn + z.1.toNat) z.2.2.2.1, .slice aW cn cW, .slice z.2.2.2.2.1 (pn + z.1.toNat) z.2.2.2.2.2.1, .slice aR pn cR, .slice aP pn cP, .slice z.2.2.2.2.2.2.1 (hn + z.1.toNat) z.2.2.2.2.2.2.2].toArray 60 (0, 0)) :: Own 38 1 (.slice aW cn cW) cn (slL (fun j => (K j).n) g cn) :: BigF cn (rwA K g) :: Own 66 1 (.slice aR pn cR) pn (slL (fun j => (P j).rn) gr pn) :: Own 67 1 (.slice aP pn cP) pn (slL (fun j => (P j).qn) gq pn) :: BigF pn (rrA P gr) :: BigF pn (rqA P gq) :: Blk b1 (.cells [Value.int .i64 fr, .int .i64 mj, .int .i64 kr, .int .i64 rr, .slice ca cn cc, .slice pa pn pc, .slice ha hn hc].toArray 27 (0, 0)) :: Blk b2 (.cells [Value.int .i64 0, .int .i64 0, .int .i64 0, .int .i64 0, .slice none 0 0, .slice none 0 0, .slice none 0 0].toArray 27 (0, 0)) :: Blk b3 (.cells [Value.slice none 0 0, .slice none 0 0, .slice none 0 0, .slice none 0 0, .slice none 0 0, .slice none 0 0].toArray 60 (0, 0)) :: F) ((0, fun _ => (none, 0), aC, cC, aQ, cQ, a128, c128)) (⟨by simp only; omega, by simp only; omega, NS.zero _⟩) (.cons rfl .nil) (fun w hw => (SPI.holds hw : Holds w0 (Own 38 1 (.slice aC cn cC) cn (fCL K g (fun _ => (none, 0)) cn (cn + 0)) :: Own 69 8 (.slice aQ pn cQ) pn (fQL P gr gq pn (pn + 0)) :: Own 82 3 (.slice a128 hn c128) hn (rowsT winRow (rm WMk H 0)) :: BigF 0 (saA fun _ => (none, 0)) :: Blk b4 (.cells [Value.slice aC cn cC, .slice aW cn cW, .slice aQ pn cQ, .slice aR pn cR, .slice aP pn cP, .slice a128 hn c128].toArray 60 (0, 0)) :: Own 38 1 (.slice aW cn cW) cn (slL (fun j => (K j).n) g cn) :: BigF cn (rwA K g) :: Own 66 1 (.slice aR pn cR) pn (slL (fun j => (P j).rn) gr pn) :: Own 67 1 (.slice aP pn cP) pn (slL (fun j => (P j).qn) gq pn) :: BigF pn (rrA P gr) :: BigF pn (rqA P gq) :: Blk b1 (.cells [Value.int .i64 fr, .int .i64 mj, .int .i64 kr, .int .i64 rr, .slice ca cn cc, .slice pa pn pc, .slice ha hn hc].toArray 27 (0, 0)) :: Blk b2 (.cells [Value.int .i64 0, .int .i64 0, .int .i64 0, .int .i64 0, .slice none 0 0, .slice none 0 0, .slice none 0 0].toArray 27 (0, 0)) :: Blk b3 (.cells [Value.slice none 0 0, .slice none 0 0, .slice none 0 0, .slice none 0 0, .slice none 0 0, .slice none 0 0].toArray 60 (0, 0)) :: F) w)) ?_
  rintro ⟨k, gs, aC, cC, aQ, cQ, aH, cH⟩ ⟨k0, k1, hzs⟩ ihk
  dsimp only [List.cons_append, List.nil_append] at ihk ⊢
  simp only at k0 k1 hzs
  refine g_seq ?_
  refine g_region ?_
  refine l_lss rfl rfl rfl ?_
  refine l_nil ?_
  refine g_seq ?_
  refine g_cond rfl ?_ ?_
  · intro hbr
    have hbr := of_decide_eq_true hbr
    refine g_skip ?_
    refine g_seq ?_
    refine g_block ?_
    refine g_seq ?_
    refine g_region ?_
    refine l_move rfl rfl ?_
    refine l_assign rfl rfl ?_
    refine l_nil ?_
    refine g_seq ?_
    refine g_region ?_
    refine l_fieldAddr rfl fa_60_0 rfl ?_
    refine l_ld rfl Try.isAgg23 rfl rfl ?_
    refine l_move rfl rfl ?_
    first | refine l_sub_ rfl rfl rfl (w_i64 (by omega) (by omega)) ?_ | refine l_subw rfl rfl rfl ?_
    refine l_build rfl rfl (fun w => bd_40_0 _ w) ?_
    refine l_buildSlice rfl Try.underlying38 Try.sizeOf40 Try.zeroValue40 rfl rfl rfl rfl rfl rfl ?_; intro b138
    refine l_buildSlice rfl Try.underlying23 Try.sizeOf38 Try.zeroValue38 rfl rfl rfl rfl rfl rfl ?_; intro b139
    refine l_frontv (.slice aC (cn + k.toNat) cC) ?_
    refine l_does rfl (does_appendS 0 (sz := 1) (by_ := 24) (m2 := 1) (news := [.slice (some ⟨b138, 0, none⟩) 1 1]) (m3 := (cn + (k + 1).toNat)) (X3 := fCL K g (upF gs k.toNat (some ⟨b138, 0, none⟩, 1)) cn (cn + (k + 1).toNat)) Try.underlying23 Try.type38 rfl rfl rfl rfl rfl rfl rfl rfl ⟨rfl, .inl ⟨_, _, _, rfl, .own (mem_getO 1 rfl)⟩⟩ rfl (by omega) (by simp only [maxLen]; omega) (by omega) (by rw [fCL_push, show k.toNat + 1 = (k + 1).toNat by omega]) (fun _ _ => rfl)) ?_
    rintro _ _ ⟨a140, c140, ha140, rfl, rfl⟩
    refine l_fieldAddr rfl fa_60_0 rfl ?_
    refine l_st Try.sizeOf23 rfl rfl rfl rfl ?_
    refine l_nil ?_
    refine g_seq ?_
    refine g_region ?_
    refine l_fieldAddr rfl fa_60_2 rfl ?_
    refine l_ld rfl Try.isAgg24 rfl rfl ?_
    refine l_move rfl rfl ?_
    first | refine l_sub_ rfl rfl rfl (w_i64 (by omega) (by omega)) ?_ | refine l_subw rfl rfl rfl ?_
    refine l_build rfl rfl (fun w => bd_69_1 _ w) ?_
    refine l_buildSlice rfl Try.underlying24 Try.sizeOf69 Try.zeroValue69 rfl rfl rfl rfl rfl rfl ?_; intro b147
    refine l_frontv (.slice aQ (pn + k.toNat) cQ) ?_
    refine l_does rfl (does_appendS 0 (sz := 8) (by_ := 104) (m2 := 1) (news := [.string ⟨#[]⟩, .int .i64 (-70 - k), .int .i64 0, .int .i64 0, .int .i64 0, .int .i64 0, .slice none 0 0, .slice none 0 0]) (m3 := (pn + (k + 1).toNat)) (X3 := fQL P gr gq pn (pn + (k + 1).toNat)) Try.underlying24 Try.type69 rfl rfl rfl rfl rfl rfl rfl rfl ⟨rfl, .inl ⟨_, _, _, rfl, .own (mem_getO 1 rfl)⟩⟩ rfl (by omega) (by simp only [maxLen]; omega) (by omega) (fQL_push k0) (fun _ _ => rfl)) ?_
    rintro _ _ ⟨a148, c148, ha148, rfl, rfl⟩
    refine l_fieldAddr rfl fa_60_2 rfl ?_
    refine l_st Try.sizeOf24 rfl rfl rfl rfl ?_
    refine l_nil ?_
    refine g_region ?_
    refine l_fieldAddr rfl fa_60_5 rfl ?_
    refine l_ld rfl Try.isAgg25 rfl rfl ?_
    refine l_move rfl rfl ?_
    first | refine l_sub_ rfl rfl rfl (w_i64 (by omega) (by omega)) ?_ | refine l_subw rfl rfl rfl ?_
    refine l_build rfl rfl (fun w => bd_82_0 _ w) ?_
    refine l_buildSlice rfl Try.underlying25 Try.sizeOf82 Try.zeroValue82 rfl rfl rfl rfl rfl rfl ?_; intro b155
    refine l_frontv (.slice aH (hn + k.toNat) cH) ?_
    refine l_does rfl (does_appendS 0 (sz := 3) (by_ := 24) (m2 := 1) (news := [.int .i64 (-70 - k), .int .i64 0, .int .i64 0]) (m3 := (hn + (k + 1).toNat)) (X3 := rowsT winRow (rm WMk H (k + 1).toNat)) Try.underlying25 Try.type82 rfl rfl rfl rfl rfl rfl rfl rfl ⟨rfl, .inl ⟨_, _, _, rfl, .own (mem_getO 1 rfl)⟩⟩ rfl (by omega) (by simp only [maxLen]; omega) (by omega) (wm_push k0) (fun _ _ => rfl)) ?_
    rintro _ _ ⟨a156, c156, ha156, rfl, rfl⟩
    refine l_fieldAddr rfl fa_60_5 rfl ?_
    refine l_st Try.sizeOf25 rfl rfl rfl rfl ?_
    refine l_nil ?_
    refine g_inBlock ?_
    refine g_region ?_
    first | refine l_add rfl rfl rfl (w_i64 (by omega) (by omega)) ?_ | refine l_addw rfl rfl rfl ?_
    refine l_move rfl rfl ?_
    refine l_nil ?_
    refine g_take (BigF k.toNat (saA gs)) ?_
    refine g_frontv (.slice (some ⟨b138, 0, none⟩) 1 1) ?_
    refine g_snocb (saA (upF gs k.toNat (some ⟨b138, 0, none⟩, 1))) (by simp only [saA, upF_at, WMk, winRow, Int.toNat_of_nonneg k0]; rfl) (fun q hq9 => by simp only [saA, upF_ne (show q ≠ k.toNat by omega)]) ?_
    have hz9 := hzs.next (b := b138) (c := 1)
    rw [show k.toNat + 1 = (k + 1).toNat by omega] at hz9 ⊢
    exact g_againi (ihk (k + 1, (upF gs k.toNat (some ⟨b138, 0, none⟩, 1)), a140, c140, a148, c148, a156, c156) ⟨by simp only; omega, by simp only; omega, hz9⟩ (by simp only; omega)) (.cons rfl (.cons rfl (.cons rfl (.cons rfl (.cons rfl (.nil))))))
  intro hbr
  have hbr := of_decide_eq_false hbr
  refine g_exit rfl ?_
  obtain rfl : k = 12 := by omega
  rw [show (12 : Int).toNat = 12 from rfl] at hzs ⊢
  refine g_frontv (.slice aC (cn + 12) cC) ?_
  refine g_fact (own_some (mem_getO 0 rfl) (by omega)) ?_
  rintro ⟨gC, rfl, hgC⟩
  refine g_frontv (.slice aQ (pn + 12) cQ) ?_
  refine g_fact (own_some (mem_getO 0 rfl) (by omega)) ?_
  rintro ⟨gQ, rfl, hgQ⟩
  refine g_frontv (.slice aH (hn + 12) cH) ?_
  refine g_fact (own_some (mem_getO 0 rfl) (by omega)) ?_
  rintro ⟨gH, rfl, hgH⟩
  refine g_seq ?_
  refine g_region ?_
  refine l_lds rfl Try.isAgg27 Try.sizeOf27 rfl rfl ?_
  refine l_allocs rfl Try.zeroValue27 ?_; intro b14
  refine l_sts Try.sizeOf27 rfl rfl rfl rfl rfl ?_
  refine l_nil ?_
  refine g_seq ?_
  refine g_region ?_
  refine l_fieldAddr rfl fa_60_0 rfl ?_
  refine l_ld rfl Try.isAgg23 rfl rfl ?_
  refine l_fieldAddr rfl fa_27_4 rfl ?_
  refine l_ld rfl Try.isAgg23 rfl rfl ?_
  refine l_len rfl Try.underlying23 rfl ?_
  refine l_slice_hi rfl Try.underlying23 Try.sizeOf38 rfl rfl (by omega) (by omega) ?_
  refine l_fieldAddr rfl fa_27_4 rfl ?_
  refine l_st Try.sizeOf23 rfl rfl rfl rfl ?_
  refine l_nil ?_
  refine g_seq ?_
  refine g_region ?_
  refine l_fieldAddr rfl fa_60_2 rfl ?_
  refine l_ld rfl Try.isAgg24 rfl rfl ?_
  refine l_fieldAddr rfl fa_27_5 rfl ?_
  refine l_ld rfl Try.isAgg24 rfl rfl ?_
  refine l_len rfl Try.underlying24 rfl ?_
  refine l_slice_hi rfl Try.underlying24 Try.sizeOf69 rfl rfl (by omega) (by omega) ?_
  refine l_fieldAddr rfl fa_27_5 rfl ?_
  refine l_st Try.sizeOf24 rfl rfl rfl rfl ?_
  refine l_nil ?_
  refine g_seq ?_
  refine g_region ?_
  refine l_fieldAddr rfl fa_60_5 rfl ?_
  refine l_ld rfl Try.isAgg25 rfl rfl ?_
  refine l_fieldAddr rfl fa_27_6 rfl ?_
  refine l_ld rfl Try.isAgg25 rfl rfl ?_
  refine l_len rfl Try.underlying25 rfl ?_
  refine l_slice_hi rfl Try.underlying25 Try.sizeOf82 rfl rfl (by omega) (by omega) ?_
  refine l_fieldAddr rfl fa_27_6 rfl ?_
  refine l_st Try.sizeOf25 rfl rfl rfl rfl ?_
  refine l_nil ?_
  refine g_seq ?_
  refine gp_start mo (by kernel_rfl) (by kernel_rfl) ?_
  refine gp_quiet 0 rfl rfl rfl rfl rfl rfl (q_lds Try.isAgg27 Try.sizeOf27 rfl rfl) ?_
  refine gp_quiet 1 rfl rfl rfl rfl rfl rfl (q_lds Try.isAgg60 Try.sizeOf60 rfl rfl) ?_
  refine gp_effa 2 [0] [1] rfl rfl rfl rfl rfl rfl rfl (does_sts Try.sizeOf27 rfl rfl rfl rfl rfl) ?_
  rintro _ _ ⟨rfl, rfl⟩
  refine ⟨?_, ?_⟩
  · refine .cons rfl rfl rfl rfl rfl (q_lds Try.isAgg60 Try.sizeOf60 rfl rfl) ?_
    exact .nil
  refine gp_effa 3 [1] [] rfl rfl rfl rfl rfl rfl rfl (does_sts Try.sizeOf60 rfl rfl rfl rfl rfl) ?_
  rintro _ _ ⟨rfl, rfl⟩
  refine ⟨?_, ?_⟩
  · exact .nil
  refine gp_end rfl rfl ?_
  refine g_frontv (.slice aW cn cW) ?_
  refine g_fact (own_nil2 (mem_getO 0 rfl)) ?_
  rintro ⟨_, haW⟩
  refine g_frontv (.slice aR pn cR) ?_
  refine g_fact (own_nil2 (mem_getO 0 rfl)) ?_
  rintro ⟨_, haR⟩
  refine g_frontv (.slice aP pn cP) ?_
  refine g_fact (own_nil2 (mem_getO 0 rfl)) ?_
  rintro ⟨_, haP⟩
  refine g_ret Try.func31 rfl (.cis rfl Try.isAgg27 Try.sizeOf27 rfl (.cis rfl Try.isAgg60 Try.sizeOf60 rfl .nil)) ?_
  exact Gives.mki ⟨g, gr, gq, gs, gC, cC, gQ, cQ, gH, cH, aW, cW, aR, cR, aP, cP, rfl, ⟨hz, hzr, hzq, hzs, haW, haR, haP⟩, rfl⟩
end Go.Proofs.Ytfccfjgnoeocnaa.Fw
