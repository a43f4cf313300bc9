import Derived.WalkKit
import Derived.Below
import Derived.Outline
import Derived.WalkSpells
import Derived.WalkLawsBesides
import Derived.Test.YtbajbmfheomkoaaDoorProg
import Derived.Test.YtbajbmfheomkoaaDoorFw16
namespace Go.Proofs.YtbajbmfheomkoaaDoor.Fw
open Go Go.Proofs
set_option linter.unusedVariables false
set_option linter.unusedSimpArgs false
set_option maxRecDepth 10000

theorem ar_cell {w0 : World} {F : List Atom} {b T k : Nat} {L : List Value} {v : Value} (hm : Blk b (.cells L.toArray T (0, 0)) ∈ F) (hv : L[k]? = some v) : CellAt w0 F b (0 + k * 1) v := fun w hw => by
  rw [Nat.zero_add, Nat.mul_one]
  exact cell_of_has (hw.ok _ hm) hv
section
variable {P : Program} {f : FuncId} {w0 : World} {K : Post} {n : Nat} {d : List Deferred} {ops : Array Oper} {rest : List Oper} {k : List Item} {e : Env} {F : List Atom} {ty : TypeId} {pos : String} {aft : Array Edge}
theorem l_ixa {t x y b o T E sz len} {kd : IntKind} {i : Int} (ht : Nat.ble (t + 1) n = true) (hT : P.underlying T = some (.array len E)) (hS : ∀ w, (sizeOf E).run P w = .ok sz w) (hx : evO e x = some (.pointer (some ⟨b, o, none⟩))) (hy : evO e y = some (.int kd i))
    (h0 : 0 ≤ i) (h1 : i < len) (hk : GL P f w0 K n d ops rest k ((t, .pointer (some ⟨b, o + i.toNat * sz, none⟩)) :: e) F) : GL P f w0 K n d ops (.mk (some t) (.indexAddr T x y) ty pos aft none :: rest) k e F :=
  l_val ht (fun ρ w ha hw => by
    have hu : ∀ w, (underlying T).run P w = .ok (.array len E) w := fun w => by simp [underlying, hT, go_sem]
    simp only [execOp, ha _ _ hx, ha _ _ hy, Instr.indexAt, asIntOf]
    simp [hu, hS, h0, h1, add_none, go_sem, Instr.sureAddr]) hk
end
set_option maxRecDepth 100000 in
theorem small17 (w : World) : Calls Tryd.prog 10 #[.int .i64 17] w fun e w' => e = .returned (.string ⟨#[49, 55]⟩) ∧ w = w' := by
  go_enter Tryd.func10, Tryd.ntmps10
  go_wp2
  go_ret
  exact ⟨by kernel_rfl, rfl⟩
set_option maxRecDepth 100000 in
theorem fmt17 (w : World) : Calls Tryd.prog 9 #[.int .i64 17, .int .i64 10] w fun e w' => e = .returned (.string ⟨#[49, 55]⟩) ∧ w = w' := by
  go_enter Tryd.func9, Tryd.ntmps9
  go_wp2_with (go_at_call 10; refine (small17 _).mono ?_; rintro e w' ⟨rfl, rfl⟩)
  go_ret
  exact ⟨rfl, rfl⟩
theorem fmt_17 (w0 : World) (F : List Atom) : CallK Tryd.prog 9 [.int .i64 17, .int .i64 10] w0 F (Gives w0 fun v F2 => v = .string ⟨#[49, 55]⟩ ∧ F2 = F) := fun w hw => (fmt17 w).mono fun e w' ⟨h1, h2⟩ => ⟨F, ⟨_, F, h1, ⟨rfl, rfl⟩, fun _ h => h⟩, by rw [← h2]; exact hw⟩
theorem ec (w : World) : (binOp .add 9 (.string ⟨#[101, 114, 114, 111, 114, 32]⟩) (.string ⟨#[49, 55]⟩)).run Tryd.prog w = .ok (.string ⟨#[101, 114, 114, 111, 114, 32, 49, 55]⟩) w := by kernel_rfl
theorem eqs (w : World) : (binOp .eql 9 (.string ⟨#[101, 114, 114, 111, 114, 32, 49, 55]⟩) (.string ⟨#[101, 114, 114, 111, 114, 32, 49, 55]⟩)).run Tryd.prog w = .ok (.bool true) w := by kernel_rfl
theorem eqsg (x y : Operand) (w : World) : (eqGuard .eql 9 x y (.string ⟨#[101, 114, 114, 111, 114, 32, 49, 55]⟩) (.string ⟨#[101, 114, 114, 111, 114, 32, 49, 55]⟩)).run Tryd.prog w = .ok () w := by kernel_rfl
theorem ops_at {i : Int} (h0 : 0 ≤ i) (h1 : i < 31) : ([.int .i64 1, .int .i64 2, .int .i64 3, .int .i64 4, .int .i64 5, .int .i64 6, .int .i64 7, .int .i64 8, .int .i64 9, .int .i64 10, .int .i64 11, .int .i64 12, .int .i64 13, .int .i64 14, .int .i64 15, .int .i64 16, .int .i64 17, .int .i64 18, .int .i64 19, .int .i64 20, .int .i64 21, .int .i64 22, .int .i64 23, .int .i64 24, .int .i64 25, .int .i64 26, .int .i64 27, .int .i64 28, .int .i64 29, .int .i64 30, .int .i64 31] : List Value)[i.toNat]? = some (.int .i64 (i + 1)) := by
  obtain ⟨k, rfl⟩ := Int.eq_ofNat_of_zero_le h0
  simp only [Int.toNat_natCast]
  match k, h1 with
  | 0, _ => rfl
  | 1, _ => rfl
  | 2, _ => rfl
  | 3, _ => rfl
  | 4, _ => rfl
  | 5, _ => rfl
  | 6, _ => rfl
  | 7, _ => rfl
  | 8, _ => rfl
  | 9, _ => rfl
  | 10, _ => rfl
  | 11, _ => rfl
  | 12, _ => rfl
  | 13, _ => rfl
  | 14, _ => rfl
  | 15, _ => rfl
  | 16, _ => rfl
  | 17, _ => rfl
  | 18, _ => rfl
  | 19, _ => rfl
  | 20, _ => rfl
  | 21, _ => rfl
  | 22, _ => rfl
  | 23, _ => rfl
  | 24, _ => rfl
  | 25, _ => rfl
  | 26, _ => rfl
  | 27, _ => rfl
  | 28, _ => rfl
  | 29, _ => rfl
  | 30, _ => rfl
  | n + 31, h => omega
theorem calls_at {i : Int} (h0 : 0 ≤ i) (h1 : i < 9) : ([.int .i64 0, .int .i64 1, .int .i64 2, .int .i64 3, .int .i64 4, .int .i64 5, .int .i64 6, .int .i64 7, .int .i64 8] : List Value)[i.toNat]? = some (.int .i64 (i)) := by
  obtain ⟨k, rfl⟩ := Int.eq_ofNat_of_zero_le h0
  simp only [Int.toNat_natCast]
  match k, h1 with
  | 0, _ => rfl
  | 1, _ => rfl
  | 2, _ => rfl
  | 3, _ => rfl
  | 4, _ => rfl
  | 5, _ => rfl
  | 6, _ => rfl
  | 7, _ => rfl
  | 8, _ => rfl
  | n + 9, h => omega
theorem errs_at {i : Int} (h0 : 0 ≤ i) (h1 : i < 25) : ([.int .i64 400, .int .i64 401, .int .i64 402, .int .i64 403, .int .i64 404, .int .i64 405, .int .i64 406, .int .i64 407, .int .i64 408, .int .i64 409, .int .i64 410, .int .i64 411, .int .i64 412, .int .i64 413, .int .i64 414, .int .i64 415, .int .i64 416, .int .i64 417, .int .i64 418, .int .i64 419, .int .i64 420, .int .i64 421, .int .i64 422, .int .i64 423, .int .i64 424] : List Value)[i.toNat]? = some (.int .i64 (400 + i)) := by
  obtain ⟨k, rfl⟩ := Int.eq_ofNat_of_zero_le h0
  simp only [Int.toNat_natCast]
  match k, h1 with
  | 0, _ => rfl
  | 1, _ => rfl
  | 2, _ => rfl
  | 3, _ => rfl
  | 4, _ => rfl
  | 5, _ => rfl
  | 6, _ => rfl
  | 7, _ => rfl
  | 8, _ => rfl
  | 9, _ => rfl
  | 10, _ => rfl
  | 11, _ => rfl
  | 12, _ => rfl
  | 13, _ => rfl
  | 14, _ => rfl
  | 15, _ => rfl
  | 16, _ => rfl
  | 17, _ => rfl
  | 18, _ => rfl
  | 19, _ => rfl
  | 20, _ => rfl
  | 21, _ => rfl
  | 22, _ => rfl
  | 23, _ => rfl
  | 24, _ => rfl
  | n + 25, h => omega
theorem itoa8 (w0 : World) (F : List Atom)  :
    CallK Tryd.prog 8 [.int .i64 17] w0 (F) (Gives w0 fun v F2 => v = .string ⟨#[49, 55]⟩ ∧ F2 = F) := by
  refine c_enter Tryd.func8 rfl rfl rfl ?_
  refine g_seq ?_
  refine g_region ?_
  refine l_assign rfl rfl ?_
  refine l_nil ?_
  refine g_seq ?_
  refine g_region ?_
  refine l_move rfl rfl ?_
  refine l_call rfl Tryd.call9 rfl (fmt_17 _ _) ?_; rintro _ _ ⟨rfl, rfl⟩
  refine l_assign rfl rfl ?_
  refine l_nil ?_
  refine g_ret Tryd.func8 rfl (.tmp rfl .nil) ?_
  exact Gives.mki ⟨rfl, rfl⟩
theorem itoa7 (w0 : World) (F : List Atom)  :
    CallK Tryd.prog 7 [.int .i64 17] w0 (F) (Gives w0 fun v F2 => v = .string ⟨#[49, 55]⟩ ∧ F2 = F) := by
  refine c_enter Tryd.func7 rfl rfl rfl ?_
  refine g_seq ?_
  refine g_region ?_
  refine l_assign rfl rfl ?_
  refine l_nil ?_
  refine g_seq ?_
  refine g_region ?_
  refine l_move rfl rfl ?_
  refine l_call rfl Tryd.call8 rfl (itoa8 _ _) ?_; rintro _ _ ⟨rfl, rfl⟩
  refine l_assign rfl rfl ?_
  refine l_nil ?_
  refine g_ret Tryd.func7 rfl (.tmp rfl .nil) ?_
  exact Gives.mki ⟨rfl, rfl⟩
theorem err17 (w0 : World) (F : List Atom)  :
    CallK Tryd.prog 6 [.int .i64 17] w0 (F) (Gives w0 fun v F2 => v = .string ⟨#[101, 114, 114, 111, 114, 32, 49, 55]⟩ ∧ F2 = F) := by
  refine c_enter Tryd.func6 rfl rfl rfl ?_
  refine g_seq ?_
  refine g_region ?_
  refine l_assign rfl rfl ?_
  refine l_nil ?_
  refine g_seq ?_
  refine g_region ?_
  refine l_move rfl rfl ?_
  refine l_call rfl Tryd.call7 rfl (itoa7 _ _) ?_; rintro _ _ ⟨rfl, rfl⟩
  refine l_bin rfl rfl rfl (fun w => by simp [eqGuard, go_sem]) ec ?_
  refine l_assign rfl rfl ?_
  refine l_nil ?_
  refine g_ret Tryd.func6 rfl (.tmp rfl .nil) ?_
  exact Gives.mki ⟨rfl, rfl⟩
theorem bl_4_5 (w : World) : (Instr.build 26 #[(0, .int .i64 1), (1, .int .i64 2), (2, .int .i64 4), (3, .int .i64 1), (4, .int .i64 2), (5, .int .i64 3), (6, .int .i64 4), (7, .int .i64 5), (8, .int .i64 6), (9, .int .i64 7), (10, .int .i64 0), (11, .int .i64 1), (12, .int .i64 2), (13, .int .i64 3), (14, .int .i64 4), (15, .int .i64 5), (16, .int .i64 6)]).run Tryd.prog w = .ok (.agg #[.int .i64 1, .int .i64 2, .int .i64 4, .int .i64 1, .int .i64 2, .int .i64 3, .int .i64 4, .int .i64 5, .int .i64 6, .int .i64 7, .int .i64 0, .int .i64 1, .int .i64 2, .int .i64 3, .int .i64 4, .int .i64 5, .int .i64 6]) w := by kernel_rfl
theorem bl_4_7 (w : World) : (Instr.build 26 #[(0, .int .i64 1), (1, .int .i64 2), (2, .int .i64 4), (3, .int .i64 1), (4, .int .i64 2), (5, .int .i64 3), (6, .int .i64 4), (7, .int .i64 5), (8, .int .i64 6), (9, .int .i64 7), (10, .int .i64 0), (11, .int .i64 1), (12, .int .i64 2), (13, .int .i64 3), (14, .int .i64 4), (15, .int .i64 5), (16, .int .i64 6)]).run Tryd.prog w = .ok (.agg #[.int .i64 1, .int .i64 2, .int .i64 4, .int .i64 1, .int .i64 2, .int .i64 3, .int .i64 4, .int .i64 5, .int .i64 6, .int .i64 7, .int .i64 0, .int .i64 1, .int .i64 2, .int .i64 3, .int .i64 4, .int .i64 5, .int .i64 6]) w := by kernel_rfl
theorem cm_4_8 (w : World) : (binOp .neq 26 (.agg #[.int .i64 1, .int .i64 2, .int .i64 4, .int .i64 1, .int .i64 2, .int .i64 3, .int .i64 4, .int .i64 5, .int .i64 6, .int .i64 7, .int .i64 0, .int .i64 1, .int .i64 2, .int .i64 3, .int .i64 4, .int .i64 5, .int .i64 6]) (.agg #[.int .i64 1, .int .i64 2, .int .i64 4, .int .i64 1, .int .i64 2, .int .i64 3, .int .i64 4, .int .i64 5, .int .i64 6, .int .i64 7, .int .i64 0, .int .i64 1, .int .i64 2, .int .i64 3, .int .i64 4, .int .i64 5, .int .i64 6])).run Tryd.prog w = .ok (.bool false) w := by kernel_rfl
theorem cm_4_8g (x y : Operand) (w : World) : (eqGuard .neq 26 x y (.agg #[.int .i64 1, .int .i64 2, .int .i64 4, .int .i64 1, .int .i64 2, .int .i64 3, .int .i64 4, .int .i64 5, .int .i64 6, .int .i64 7, .int .i64 0, .int .i64 1, .int .i64 2, .int .i64 3, .int .i64 4, .int .i64 5, .int .i64 6]) (.agg #[.int .i64 1, .int .i64 2, .int .i64 4, .int .i64 1, .int .i64 2, .int .i64 3, .int .i64 4, .int .i64 5, .int .i64 6, .int .i64 7, .int .i64 0, .int .i64 1, .int .i64 2, .int .i64 3, .int .i64 4, .int .i64 5, .int .i64 6])).run Tryd.prog w = .ok () w := by kernel_rfl
theorem bl_4_9 (w : World) : (Instr.build 26 #[(0, .int .i64 0), (1, .int .i64 1), (2, .int .i64 2), (3, .int .i64 3), (4, .int .i64 4), (5, .int .i64 5), (6, .int .i64 6), (7, .int .i64 7), (8, .int .i64 1), (9, .int .i64 2), (10, .int .i64 0), (11, .int .i64 1), (12, .int .i64 2), (13, .int .i64 0), (14, .int .i64 1), (15, .int .i64 2), (16, .int .i64 3)]).run Tryd.prog w = .ok (.agg #[.int .i64 0, .int .i64 1, .int .i64 2, .int .i64 3, .int .i64 4, .int .i64 5, .int .i64 6, .int .i64 7, .int .i64 1, .int .i64 2, .int .i64 0, .int .i64 1, .int .i64 2, .int .i64 0, .int .i64 1, .int .i64 2, .int .i64 3]) w := by kernel_rfl
theorem bl_4_11 (w : World) : (Instr.build 26 #[(0, .int .i64 0), (1, .int .i64 1), (2, .int .i64 2), (3, .int .i64 3), (4, .int .i64 4), (5, .int .i64 5), (6, .int .i64 6), (7, .int .i64 7), (8, .int .i64 1), (9, .int .i64 2), (10, .int .i64 0), (11, .int .i64 1), (12, .int .i64 2), (13, .int .i64 0), (14, .int .i64 1), (15, .int .i64 2), (16, .int .i64 3)]).run Tryd.prog w = .ok (.agg #[.int .i64 0, .int .i64 1, .int .i64 2, .int .i64 3, .int .i64 4, .int .i64 5, .int .i64 6, .int .i64 7, .int .i64 1, .int .i64 2, .int .i64 0, .int .i64 1, .int .i64 2, .int .i64 0, .int .i64 1, .int .i64 2, .int .i64 3]) w := by kernel_rfl
theorem cm_4_12 (w : World) : (binOp .neq 26 (.agg #[.int .i64 0, .int .i64 1, .int .i64 2, .int .i64 3, .int .i64 4, .int .i64 5, .int .i64 6, .int .i64 7, .int .i64 1, .int .i64 2, .int .i64 0, .int .i64 1, .int .i64 2, .int .i64 0, .int .i64 1, .int .i64 2, .int .i64 3]) (.agg #[.int .i64 0, .int .i64 1, .int .i64 2, .int .i64 3, .int .i64 4, .int .i64 5, .int .i64 6, .int .i64 7, .int .i64 1, .int .i64 2, .int .i64 0, .int .i64 1, .int .i64 2, .int .i64 0, .int .i64 1, .int .i64 2, .int .i64 3])).run Tryd.prog w = .ok (.bool false) w := by kernel_rfl
theorem cm_4_12g (x y : Operand) (w : World) : (eqGuard .neq 26 x y (.agg #[.int .i64 0, .int .i64 1, .int .i64 2, .int .i64 3, .int .i64 4, .int .i64 5, .int .i64 6, .int .i64 7, .int .i64 1, .int .i64 2, .int .i64 0, .int .i64 1, .int .i64 2, .int .i64 0, .int .i64 1, .int .i64 2, .int .i64 3]) (.agg #[.int .i64 0, .int .i64 1, .int .i64 2, .int .i64 3, .int .i64 4, .int .i64 5, .int .i64 6, .int .i64 7, .int .i64 1, .int .i64 2, .int .i64 0, .int .i64 1, .int .i64 2, .int .i64 0, .int .i64 1, .int .i64 2, .int .i64 3])).run Tryd.prog w = .ok () w := by kernel_rfl
theorem bl_4_13 (w : World) : (Instr.build 26 #[(0, .int .i64 1), (1, .int .i64 2), (2, .int .i64 3), (3, .int .i64 4), (4, .int .i64 5), (5, .int .i64 0), (6, .int .i64 1), (7, .int .i64 2), (8, .int .i64 3), (9, .int .i64 4), (10, .int .i64 5), (11, .int .i64 1), (12, .int .i64 2), (13, .int .i64 3), (14, .int .i64 4), (15, .int .i64 5), (16, .int .i64 6)]).run Tryd.prog w = .ok (.agg #[.int .i64 1, .int .i64 2, .int .i64 3, .int .i64 4, .int .i64 5, .int .i64 0, .int .i64 1, .int .i64 2, .int .i64 3, .int .i64 4, .int .i64 5, .int .i64 1, .int .i64 2, .int .i64 3, .int .i64 4, .int .i64 5, .int .i64 6]) w := by kernel_rfl
theorem bl_4_15 (w : World) : (Instr.build 26 #[(0, .int .i64 1), (1, .int .i64 2), (2, .int .i64 3), (3, .int .i64 4), (4, .int .i64 5), (5, .int .i64 0), (6, .int .i64 1), (7, .int .i64 2), (8, .int .i64 3), (9, .int .i64 4), (10, .int .i64 5), (11, .int .i64 1), (12, .int .i64 2), (13, .int .i64 3), (14, .int .i64 4), (15, .int .i64 5), (16, .int .i64 6)]).run Tryd.prog w = .ok (.agg #[.int .i64 1, .int .i64 2, .int .i64 3, .int .i64 4, .int .i64 5, .int .i64 0, .int .i64 1, .int .i64 2, .int .i64 3, .int .i64 4, .int .i64 5, .int .i64 1, .int .i64 2, .int .i64 3, .int .i64 4, .int .i64 5, .int .i64 6]) w := by kernel_rfl
theorem cm_4_16 (w : World) : (binOp .neq 26 (.agg #[.int .i64 1, .int .i64 2, .int .i64 3, .int .i64 4, .int .i64 5, .int .i64 0, .int .i64 1, .int .i64 2, .int .i64 3, .int .i64 4, .int .i64 5, .int .i64 1, .int .i64 2, .int .i64 3, .int .i64 4, .int .i64 5, .int .i64 6]) (.agg #[.int .i64 1, .int .i64 2, .int .i64 3, .int .i64 4, .int .i64 5, .int .i64 0, .int .i64 1, .int .i64 2, .int .i64 3, .int .i64 4, .int .i64 5, .int .i64 1, .int .i64 2, .int .i64 3, .int .i64 4, .int .i64 5, .int .i64 6])).run Tryd.prog w = .ok (.bool false) w := by kernel_rfl
theorem cm_4_16g (x y : Operand) (w : World) : (eqGuard .neq 26 x y (.agg #[.int .i64 1, .int .i64 2, .int .i64 3, .int .i64 4, .int .i64 5, .int .i64 0, .int .i64 1, .int .i64 2, .int .i64 3, .int .i64 4, .int .i64 5, .int .i64 1, .int .i64 2, .int .i64 3, .int .i64 4, .int .i64 5, .int .i64 6]) (.agg #[.int .i64 1, .int .i64 2, .int .i64 3, .int .i64 4, .int .i64 5, .int .i64 0, .int .i64 1, .int .i64 2, .int .i64 3, .int .i64 4, .int .i64 5, .int .i64 1, .int .i64 2, .int .i64 3, .int .i64 4, .int .i64 5, .int .i64 6])).run Tryd.prog w = .ok () w := by kernel_rfl
theorem bl_4_17 (w : World) : (Instr.build 26 #[(0, .int .i64 0), (1, .int .i64 1), (2, .int .i64 2), (3, .int .i64 3), (4, .int .i64 4), (5, .int .i64 5), (6, .int .i64 6), (7, .int .i64 7), (8, .int .i64 8), (9, .int .i64 9), (10, .int .i64 1), (11, .int .i64 2), (12, .int .i64 3), (13, .int .i64 4), (14, .int .i64 5), (15, .int .i64 6), (16, .int .i64 7)]).run Tryd.prog w = .ok (.agg #[.int .i64 0, .int .i64 1, .int .i64 2, .int .i64 3, .int .i64 4, .int .i64 5, .int .i64 6, .int .i64 7, .int .i64 8, .int .i64 9, .int .i64 1, .int .i64 2, .int .i64 3, .int .i64 4, .int .i64 5, .int .i64 6, .int .i64 7]) w := by kernel_rfl
theorem bl_4_19 (w : World) : (Instr.build 26 #[(0, .int .i64 0), (1, .int .i64 1), (2, .int .i64 2), (3, .int .i64 3), (4, .int .i64 4), (5, .int .i64 5), (6, .int .i64 6), (7, .int .i64 7), (8, .int .i64 8), (9, .int .i64 9), (10, .int .i64 1), (11, .int .i64 2), (12, .int .i64 3), (13, .int .i64 4), (14, .int .i64 5), (15, .int .i64 6), (16, .int .i64 7)]).run Tryd.prog w = .ok (.agg #[.int .i64 0, .int .i64 1, .int .i64 2, .int .i64 3, .int .i64 4, .int .i64 5, .int .i64 6, .int .i64 7, .int .i64 8, .int .i64 9, .int .i64 1, .int .i64 2, .int .i64 3, .int .i64 4, .int .i64 5, .int .i64 6, .int .i64 7]) w := by kernel_rfl
theorem cm_4_20 (w : World) : (binOp .eql 26 (.agg #[.int .i64 0, .int .i64 1, .int .i64 2, .int .i64 3, .int .i64 4, .int .i64 5, .int .i64 6, .int .i64 7, .int .i64 8, .int .i64 9, .int .i64 1, .int .i64 2, .int .i64 3, .int .i64 4, .int .i64 5, .int .i64 6, .int .i64 7]) (.agg #[.int .i64 0, .int .i64 1, .int .i64 2, .int .i64 3, .int .i64 4, .int .i64 5, .int .i64 6, .int .i64 7, .int .i64 8, .int .i64 9, .int .i64 1, .int .i64 2, .int .i64 3, .int .i64 4, .int .i64 5, .int .i64 6, .int .i64 7])).run Tryd.prog w = .ok (.bool true) w := by kernel_rfl
theorem cm_4_20g (x y : Operand) (w : World) : (eqGuard .eql 26 x y (.agg #[.int .i64 0, .int .i64 1, .int .i64 2, .int .i64 3, .int .i64 4, .int .i64 5, .int .i64 6, .int .i64 7, .int .i64 8, .int .i64 9, .int .i64 1, .int .i64 2, .int .i64 3, .int .i64 4, .int .i64 5, .int .i64 6, .int .i64 7]) (.agg #[.int .i64 0, .int .i64 1, .int .i64 2, .int .i64 3, .int .i64 4, .int .i64 5, .int .i64 6, .int .i64 7, .int .i64 8, .int .i64 9, .int .i64 1, .int .i64 2, .int .i64 3, .int .i64 4, .int .i64 5, .int .i64 6, .int .i64 7])).run Tryd.prog w = .ok () w := by kernel_rfl
theorem kinds_ok (w0 : World) (F : List Atom)  :
    CallK Tryd.prog 4 [] w0 (F) (Gives w0 fun v F2 => v = .bool true ∧ F2 = F) := by
  refine c_enter Tryd.func4 rfl rfl rfl ?_
  refine g_seq ?_
  refine g_region ?_
  refine l_assign rfl rfl ?_
  refine l_nil ?_
  refine g_seq ?_
  refine g_region ?_
  refine l_build (v := .agg #[.int .i64 1, .int .i64 2, .int .i64 4, .int .i64 1, .int .i64 2, .int .i64 3, .int .i64 4, .int .i64 5, .int .i64 6, .int .i64 7, .int .i64 0, .int .i64 1, .int .i64 2, .int .i64 3, .int .i64 4, .int .i64 5, .int .i64 6]) rfl rfl bl_4_5 ?_
  refine l_allocs rfl Tryd.zeroValue26 ?_; intro b1
  refine l_sts Tryd.sizeOf26 rfl rfl rfl rfl rfl ?_
  refine l_nil ?_
  refine g_seq ?_
  refine g_seq ?_
  refine g_region ?_
  refine l_lds rfl Tryd.isAgg26 Tryd.sizeOf26 rfl rfl ?_
  refine l_build (v := .agg #[.int .i64 1, .int .i64 2, .int .i64 4, .int .i64 1, .int .i64 2, .int .i64 3, .int .i64 4, .int .i64 5, .int .i64 6, .int .i64 7, .int .i64 0, .int .i64 1, .int .i64 2, .int .i64 3, .int .i64 4, .int .i64 5, .int .i64 6]) rfl rfl bl_4_7 ?_
  refine l_bin rfl rfl rfl (cm_4_8g _ _) cm_4_8 ?_
  refine l_nil ?_
  refine g_cond_f rfl ?_
  refine g_skip ?_
  refine g_seq ?_
  refine g_region ?_
  refine l_build (v := .agg #[.int .i64 0, .int .i64 1, .int .i64 2, .int .i64 3, .int .i64 4, .int .i64 5, .int .i64 6, .int .i64 7, .int .i64 1, .int .i64 2, .int .i64 0, .int .i64 1, .int .i64 2, .int .i64 0, .int .i64 1, .int .i64 2, .int .i64 3]) rfl rfl bl_4_9 ?_
  refine l_allocs rfl Tryd.zeroValue26 ?_; intro b2
  refine l_sts Tryd.sizeOf26 rfl rfl rfl rfl rfl ?_
  refine l_nil ?_
  refine g_seq ?_
  refine g_seq ?_
  refine g_region ?_
  refine l_lds rfl Tryd.isAgg26 Tryd.sizeOf26 rfl rfl ?_
  refine l_build (v := .agg #[.int .i64 0, .int .i64 1, .int .i64 2, .int .i64 3, .int .i64 4, .int .i64 5, .int .i64 6, .int .i64 7, .int .i64 1, .int .i64 2, .int .i64 0, .int .i64 1, .int .i64 2, .int .i64 0, .int .i64 1, .int .i64 2, .int .i64 3]) rfl rfl bl_4_11 ?_
  refine l_bin rfl rfl rfl (cm_4_12g _ _) cm_4_12 ?_
  refine l_nil ?_
  refine g_cond_f rfl ?_
  refine g_skip ?_
  refine g_seq ?_
  refine g_region ?_
  refine l_build (v := .agg #[.int .i64 1, .int .i64 2, .int .i64 3, .int .i64 4, .int .i64 5, .int .i64 0, .int .i64 1, .int .i64 2, .int .i64 3, .int .i64 4, .int .i64 5, .int .i64 1, .int .i64 2, .int .i64 3, .int .i64 4, .int .i64 5, .int .i64 6]) rfl rfl bl_4_13 ?_
  refine l_allocs rfl Tryd.zeroValue26 ?_; intro b3
  refine l_sts Tryd.sizeOf26 rfl rfl rfl rfl rfl ?_
  refine l_nil ?_
  refine g_seq ?_
  refine g_seq ?_
  refine g_region ?_
  refine l_lds rfl Tryd.isAgg26 Tryd.sizeOf26 rfl rfl ?_
  refine l_build (v := .agg #[.int .i64 1, .int .i64 2, .int .i64 3, .int .i64 4, .int .i64 5, .int .i64 0, .int .i64 1, .int .i64 2, .int .i64 3, .int .i64 4, .int .i64 5, .int .i64 1, .int .i64 2, .int .i64 3, .int .i64 4, .int .i64 5, .int .i64 6]) rfl rfl bl_4_15 ?_
  refine l_bin rfl rfl rfl (cm_4_16g _ _) cm_4_16 ?_
  refine l_nil ?_
  refine g_cond_f rfl ?_
  refine g_skip ?_
  refine g_seq ?_
  refine g_region ?_
  refine l_build (v := .agg #[.int .i64 0, .int .i64 1, .int .i64 2, .int .i64 3, .int .i64 4, .int .i64 5, .int .i64 6, .int .i64 7, .int .i64 8, .int .i64 9, .int .i64 1, .int .i64 2, .int .i64 3, .int .i64 4, .int .i64 5, .int .i64 6, .int .i64 7]) rfl rfl bl_4_17 ?_
  refine l_allocs rfl Tryd.zeroValue26 ?_; intro b4
  refine l_sts Tryd.sizeOf26 rfl rfl rfl rfl rfl ?_
  refine l_nil ?_
  refine g_seq ?_
  refine g_region ?_
  refine l_lds rfl Tryd.isAgg26 Tryd.sizeOf26 rfl rfl ?_
  refine l_build (v := .agg #[.int .i64 0, .int .i64 1, .int .i64 2, .int .i64 3, .int .i64 4, .int .i64 5, .int .i64 6, .int .i64 7, .int .i64 8, .int .i64 9, .int .i64 1, .int .i64 2, .int .i64 3, .int .i64 4, .int .i64 5, .int .i64 6, .int .i64 7]) rfl rfl bl_4_19 ?_
  refine l_bin rfl rfl rfl (cm_4_20g _ _) cm_4_20 ?_
  refine l_assign rfl rfl ?_
  refine l_nil ?_
  refine g_ret Tryd.func4 rfl (.tmp rfl .nil) ?_
  exact Gives.mki ⟨rfl, rfl⟩
theorem bl_5_6 (w : World) : (Instr.build 28 #[(0, .int .i64 0), (1, .int .i64 1), (2, .int .i64 2), (3, .int .i64 3), (4, .int .i64 10), (5, .int .i64 11), (6, .int .i64 12), (7, .int .i64 13), (8, .int .i64 14), (9, .int .i64 20), (10, .int .i64 21), (11, .int .i64 30), (12, .int .i64 31), (13, .int .i64 40), (14, .int .i64 41), (15, .int .i64 42), (16, .int .i64 43), (17, .int .i64 44), (18, .int .i64 45), (19, .int .i64 50), (20, .int .i64 51), (21, .int .i64 60), (22, .int .i64 70), (23, .int .i64 71), (24, .int .i64 80), (25, .int .i64 81)]).run Tryd.prog w = .ok (.agg #[.int .i64 0, .int .i64 1, .int .i64 2, .int .i64 3, .int .i64 10, .int .i64 11, .int .i64 12, .int .i64 13, .int .i64 14, .int .i64 20, .int .i64 21, .int .i64 30, .int .i64 31, .int .i64 40, .int .i64 41, .int .i64 42, .int .i64 43, .int .i64 44, .int .i64 45, .int .i64 50, .int .i64 51, .int .i64 60, .int .i64 70, .int .i64 71, .int .i64 80, .int .i64 81]) w := by kernel_rfl
theorem bl_5_8 (w : World) : (Instr.build 28 #[(0, .int .i64 0), (1, .int .i64 1), (2, .int .i64 2), (3, .int .i64 3), (4, .int .i64 10), (5, .int .i64 11), (6, .int .i64 12), (7, .int .i64 13), (8, .int .i64 14), (9, .int .i64 20), (10, .int .i64 21), (11, .int .i64 30), (12, .int .i64 31), (13, .int .i64 40), (14, .int .i64 41), (15, .int .i64 42), (16, .int .i64 43), (17, .int .i64 44), (18, .int .i64 45), (19, .int .i64 50), (20, .int .i64 51), (21, .int .i64 60), (22, .int .i64 70), (23, .int .i64 71), (24, .int .i64 80), (25, .int .i64 81)]).run Tryd.prog w = .ok (.agg #[.int .i64 0, .int .i64 1, .int .i64 2, .int .i64 3, .int .i64 10, .int .i64 11, .int .i64 12, .int .i64 13, .int .i64 14, .int .i64 20, .int .i64 21, .int .i64 30, .int .i64 31, .int .i64 40, .int .i64 41, .int .i64 42, .int .i64 43, .int .i64 44, .int .i64 45, .int .i64 50, .int .i64 51, .int .i64 60, .int .i64 70, .int .i64 71, .int .i64 80, .int .i64 81]) w := by kernel_rfl
theorem cm_5_9 (w : World) : (binOp .neq 28 (.agg #[.int .i64 0, .int .i64 1, .int .i64 2, .int .i64 3, .int .i64 10, .int .i64 11, .int .i64 12, .int .i64 13, .int .i64 14, .int .i64 20, .int .i64 21, .int .i64 30, .int .i64 31, .int .i64 40, .int .i64 41, .int .i64 42, .int .i64 43, .int .i64 44, .int .i64 45, .int .i64 50, .int .i64 51, .int .i64 60, .int .i64 70, .int .i64 71, .int .i64 80, .int .i64 81]) (.agg #[.int .i64 0, .int .i64 1, .int .i64 2, .int .i64 3, .int .i64 10, .int .i64 11, .int .i64 12, .int .i64 13, .int .i64 14, .int .i64 20, .int .i64 21, .int .i64 30, .int .i64 31, .int .i64 40, .int .i64 41, .int .i64 42, .int .i64 43, .int .i64 44, .int .i64 45, .int .i64 50, .int .i64 51, .int .i64 60, .int .i64 70, .int .i64 71, .int .i64 80, .int .i64 81])).run Tryd.prog w = .ok (.bool false) w := by kernel_rfl
theorem cm_5_9g (x y : Operand) (w : World) : (eqGuard .neq 28 x y (.agg #[.int .i64 0, .int .i64 1, .int .i64 2, .int .i64 3, .int .i64 10, .int .i64 11, .int .i64 12, .int .i64 13, .int .i64 14, .int .i64 20, .int .i64 21, .int .i64 30, .int .i64 31, .int .i64 40, .int .i64 41, .int .i64 42, .int .i64 43, .int .i64 44, .int .i64 45, .int .i64 50, .int .i64 51, .int .i64 60, .int .i64 70, .int .i64 71, .int .i64 80, .int .i64 81]) (.agg #[.int .i64 0, .int .i64 1, .int .i64 2, .int .i64 3, .int .i64 10, .int .i64 11, .int .i64 12, .int .i64 13, .int .i64 14, .int .i64 20, .int .i64 21, .int .i64 30, .int .i64 31, .int .i64 40, .int .i64 41, .int .i64 42, .int .i64 43, .int .i64 44, .int .i64 45, .int .i64 50, .int .i64 51, .int .i64 60, .int .i64 70, .int .i64 71, .int .i64 80, .int .i64 81])).run Tryd.prog w = .ok () w := by kernel_rfl
theorem bl_5_10 (w : World) : (Instr.build 29 #[(0, .int .i64 90), (1, .int .i64 91), (2, .int .i64 92), (3, .int .i64 93), (4, .int .i64 94), (5, .int .i64 95), (6, .int .i64 100), (7, .int .i64 110), (8, .int .i64 111), (9, .int .i64 112), (10, .int .i64 120), (11, .int .i64 121), (12, .int .i64 122), (13, .int .i64 123), (14, .int .i64 130), (15, .int .i64 131), (16, .int .i64 140), (17, .int .i64 141), (18, .int .i64 142), (19, .int .i64 150), (20, .int .i64 151)]).run Tryd.prog w = .ok (.agg #[.int .i64 90, .int .i64 91, .int .i64 92, .int .i64 93, .int .i64 94, .int .i64 95, .int .i64 100, .int .i64 110, .int .i64 111, .int .i64 112, .int .i64 120, .int .i64 121, .int .i64 122, .int .i64 123, .int .i64 130, .int .i64 131, .int .i64 140, .int .i64 141, .int .i64 142, .int .i64 150, .int .i64 151]) w := by kernel_rfl
theorem bl_5_12 (w : World) : (Instr.build 29 #[(0, .int .i64 90), (1, .int .i64 91), (2, .int .i64 92), (3, .int .i64 93), (4, .int .i64 94), (5, .int .i64 95), (6, .int .i64 100), (7, .int .i64 110), (8, .int .i64 111), (9, .int .i64 112), (10, .int .i64 120), (11, .int .i64 121), (12, .int .i64 122), (13, .int .i64 123), (14, .int .i64 130), (15, .int .i64 131), (16, .int .i64 140), (17, .int .i64 141), (18, .int .i64 142), (19, .int .i64 150), (20, .int .i64 151)]).run Tryd.prog w = .ok (.agg #[.int .i64 90, .int .i64 91, .int .i64 92, .int .i64 93, .int .i64 94, .int .i64 95, .int .i64 100, .int .i64 110, .int .i64 111, .int .i64 112, .int .i64 120, .int .i64 121, .int .i64 122, .int .i64 123, .int .i64 130, .int .i64 131, .int .i64 140, .int .i64 141, .int .i64 142, .int .i64 150, .int .i64 151]) w := by kernel_rfl
theorem cm_5_13 (w : World) : (binOp .neq 29 (.agg #[.int .i64 90, .int .i64 91, .int .i64 92, .int .i64 93, .int .i64 94, .int .i64 95, .int .i64 100, .int .i64 110, .int .i64 111, .int .i64 112, .int .i64 120, .int .i64 121, .int .i64 122, .int .i64 123, .int .i64 130, .int .i64 131, .int .i64 140, .int .i64 141, .int .i64 142, .int .i64 150, .int .i64 151]) (.agg #[.int .i64 90, .int .i64 91, .int .i64 92, .int .i64 93, .int .i64 94, .int .i64 95, .int .i64 100, .int .i64 110, .int .i64 111, .int .i64 112, .int .i64 120, .int .i64 121, .int .i64 122, .int .i64 123, .int .i64 130, .int .i64 131, .int .i64 140, .int .i64 141, .int .i64 142, .int .i64 150, .int .i64 151])).run Tryd.prog w = .ok (.bool false) w := by kernel_rfl
theorem cm_5_13g (x y : Operand) (w : World) : (eqGuard .neq 29 x y (.agg #[.int .i64 90, .int .i64 91, .int .i64 92, .int .i64 93, .int .i64 94, .int .i64 95, .int .i64 100, .int .i64 110, .int .i64 111, .int .i64 112, .int .i64 120, .int .i64 121, .int .i64 122, .int .i64 123, .int .i64 130, .int .i64 131, .int .i64 140, .int .i64 141, .int .i64 142, .int .i64 150, .int .i64 151]) (.agg #[.int .i64 90, .int .i64 91, .int .i64 92, .int .i64 93, .int .i64 94, .int .i64 95, .int .i64 100, .int .i64 110, .int .i64 111, .int .i64 112, .int .i64 120, .int .i64 121, .int .i64 122, .int .i64 123, .int .i64 130, .int .i64 131, .int .i64 140, .int .i64 141, .int .i64 142, .int .i64 150, .int .i64 151])).run Tryd.prog w = .ok () w := by kernel_rfl
theorem bl_5_14 (w : World) : (Instr.build 30 #[(0, .int .i64 170), (1, .int .i64 180), (2, .int .i64 181), (3, .int .i64 182), (4, .int .i64 190), (5, .int .i64 191), (6, .int .i64 200), (7, .int .i64 201), (8, .int .i64 210), (9, .int .i64 220), (10, .int .i64 221), (11, .int .i64 230), (12, .int .i64 231), (13, .int .i64 232), (14, .int .i64 240), (15, .int .i64 241), (16, .int .i64 250), (17, .int .i64 251), (18, .int .i64 260), (19, .int .i64 261), (20, .int .i64 262), (21, .int .i64 270), (22, .int .i64 271), (23, .int .i64 290), (24, .int .i64 291), (25, .int .i64 292), (26, .int .i64 300), (27, .int .i64 310), (28, .int .i64 311), (29, .int .i64 320), (30, .int .i64 321)]).run Tryd.prog w = .ok (.agg #[.int .i64 170, .int .i64 180, .int .i64 181, .int .i64 182, .int .i64 190, .int .i64 191, .int .i64 200, .int .i64 201, .int .i64 210, .int .i64 220, .int .i64 221, .int .i64 230, .int .i64 231, .int .i64 232, .int .i64 240, .int .i64 241, .int .i64 250, .int .i64 251, .int .i64 260, .int .i64 261, .int .i64 262, .int .i64 270, .int .i64 271, .int .i64 290, .int .i64 291, .int .i64 292, .int .i64 300, .int .i64 310, .int .i64 311, .int .i64 320, .int .i64 321]) w := by kernel_rfl
theorem bl_5_16 (w : World) : (Instr.build 30 #[(0, .int .i64 170), (1, .int .i64 180), (2, .int .i64 181), (3, .int .i64 182), (4, .int .i64 190), (5, .int .i64 191), (6, .int .i64 200), (7, .int .i64 201), (8, .int .i64 210), (9, .int .i64 220), (10, .int .i64 221), (11, .int .i64 230), (12, .int .i64 231), (13, .int .i64 232), (14, .int .i64 240), (15, .int .i64 241), (16, .int .i64 250), (17, .int .i64 251), (18, .int .i64 260), (19, .int .i64 261), (20, .int .i64 262), (21, .int .i64 270), (22, .int .i64 271), (23, .int .i64 290), (24, .int .i64 291), (25, .int .i64 292), (26, .int .i64 300), (27, .int .i64 310), (28, .int .i64 311), (29, .int .i64 320), (30, .int .i64 321)]).run Tryd.prog w = .ok (.agg #[.int .i64 170, .int .i64 180, .int .i64 181, .int .i64 182, .int .i64 190, .int .i64 191, .int .i64 200, .int .i64 201, .int .i64 210, .int .i64 220, .int .i64 221, .int .i64 230, .int .i64 231, .int .i64 232, .int .i64 240, .int .i64 241, .int .i64 250, .int .i64 251, .int .i64 260, .int .i64 261, .int .i64 262, .int .i64 270, .int .i64 271, .int .i64 290, .int .i64 291, .int .i64 292, .int .i64 300, .int .i64 310, .int .i64 311, .int .i64 320, .int .i64 321]) w := by kernel_rfl
theorem cm_5_17 (w : World) : (binOp .neq 30 (.agg #[.int .i64 170, .int .i64 180, .int .i64 181, .int .i64 182, .int .i64 190, .int .i64 191, .int .i64 200, .int .i64 201, .int .i64 210, .int .i64 220, .int .i64 221, .int .i64 230, .int .i64 231, .int .i64 232, .int .i64 240, .int .i64 241, .int .i64 250, .int .i64 251, .int .i64 260, .int .i64 261, .int .i64 262, .int .i64 270, .int .i64 271, .int .i64 290, .int .i64 291, .int .i64 292, .int .i64 300, .int .i64 310, .int .i64 311, .int .i64 320, .int .i64 321]) (.agg #[.int .i64 170, .int .i64 180, .int .i64 181, .int .i64 182, .int .i64 190, .int .i64 191, .int .i64 200, .int .i64 201, .int .i64 210, .int .i64 220, .int .i64 221, .int .i64 230, .int .i64 231, .int .i64 232, .int .i64 240, .int .i64 241, .int .i64 250, .int .i64 251, .int .i64 260, .int .i64 261, .int .i64 262, .int .i64 270, .int .i64 271, .int .i64 290, .int .i64 291, .int .i64 292, .int .i64 300, .int .i64 310, .int .i64 311, .int .i64 320, .int .i64 321])).run Tryd.prog w = .ok (.bool false) w := by kernel_rfl
theorem cm_5_17g (x y : Operand) (w : World) : (eqGuard .neq 30 x y (.agg #[.int .i64 170, .int .i64 180, .int .i64 181, .int .i64 182, .int .i64 190, .int .i64 191, .int .i64 200, .int .i64 201, .int .i64 210, .int .i64 220, .int .i64 221, .int .i64 230, .int .i64 231, .int .i64 232, .int .i64 240, .int .i64 241, .int .i64 250, .int .i64 251, .int .i64 260, .int .i64 261, .int .i64 262, .int .i64 270, .int .i64 271, .int .i64 290, .int .i64 291, .int .i64 292, .int .i64 300, .int .i64 310, .int .i64 311, .int .i64 320, .int .i64 321]) (.agg #[.int .i64 170, .int .i64 180, .int .i64 181, .int .i64 182, .int .i64 190, .int .i64 191, .int .i64 200, .int .i64 201, .int .i64 210, .int .i64 220, .int .i64 221, .int .i64 230, .int .i64 231, .int .i64 232, .int .i64 240, .int .i64 241, .int .i64 250, .int .i64 251, .int .i64 260, .int .i64 261, .int .i64 262, .int .i64 270, .int .i64 271, .int .i64 290, .int .i64 291, .int .i64 292, .int .i64 300, .int .i64 310, .int .i64 311, .int .i64 320, .int .i64 321])).run Tryd.prog w = .ok () w := by kernel_rfl
theorem bl_5_18 (w : World) : (Instr.build 31 #[(0, .int .i64 400), (1, .int .i64 401), (2, .int .i64 402), (3, .int .i64 403), (4, .int .i64 404), (5, .int .i64 405), (6, .int .i64 406), (7, .int .i64 407), (8, .int .i64 408), (9, .int .i64 409), (10, .int .i64 410), (11, .int .i64 411), (12, .int .i64 412), (13, .int .i64 413), (14, .int .i64 414), (15, .int .i64 415), (16, .int .i64 416), (17, .int .i64 417), (18, .int .i64 418), (19, .int .i64 419), (20, .int .i64 420), (21, .int .i64 421), (22, .int .i64 422), (23, .int .i64 423), (24, .int .i64 424)]).run Tryd.prog w = .ok (.agg #[.int .i64 400, .int .i64 401, .int .i64 402, .int .i64 403, .int .i64 404, .int .i64 405, .int .i64 406, .int .i64 407, .int .i64 408, .int .i64 409, .int .i64 410, .int .i64 411, .int .i64 412, .int .i64 413, .int .i64 414, .int .i64 415, .int .i64 416, .int .i64 417, .int .i64 418, .int .i64 419, .int .i64 420, .int .i64 421, .int .i64 422, .int .i64 423, .int .i64 424]) w := by kernel_rfl
theorem errors_ok (w0 : World) (F : List Atom)  :
    CallK Tryd.prog 5 [] w0 (F) (Gives w0 fun v F2 => v = .bool true ∧ F2 = F) := by
  refine c_enter Tryd.func5 rfl rfl rfl ?_
  refine g_seq ?_
  refine g_region ?_
  refine l_assign rfl rfl ?_
  refine l_nil ?_
  refine g_seq ?_
  refine g_region ?_
  refine l_build (v := .agg #[.int .i64 0, .int .i64 1, .int .i64 2, .int .i64 3, .int .i64 10, .int .i64 11, .int .i64 12, .int .i64 13, .int .i64 14, .int .i64 20, .int .i64 21, .int .i64 30, .int .i64 31, .int .i64 40, .int .i64 41, .int .i64 42, .int .i64 43, .int .i64 44, .int .i64 45, .int .i64 50, .int .i64 51, .int .i64 60, .int .i64 70, .int .i64 71, .int .i64 80, .int .i64 81]) rfl rfl bl_5_6 ?_
  refine l_allocs rfl Tryd.zeroValue28 ?_; intro b1
  refine l_sts Tryd.sizeOf28 rfl rfl rfl rfl rfl ?_
  refine l_nil ?_
  refine g_seq ?_
  refine g_seq ?_
  refine g_region ?_
  refine l_lds rfl Tryd.isAgg28 Tryd.sizeOf28 rfl rfl ?_
  refine l_build (v := .agg #[.int .i64 0, .int .i64 1, .int .i64 2, .int .i64 3, .int .i64 10, .int .i64 11, .int .i64 12, .int .i64 13, .int .i64 14, .int .i64 20, .int .i64 21, .int .i64 30, .int .i64 31, .int .i64 40, .int .i64 41, .int .i64 42, .int .i64 43, .int .i64 44, .int .i64 45, .int .i64 50, .int .i64 51, .int .i64 60, .int .i64 70, .int .i64 71, .int .i64 80, .int .i64 81]) rfl rfl bl_5_8 ?_
  refine l_bin rfl rfl rfl (cm_5_9g _ _) cm_5_9 ?_
  refine l_nil ?_
  refine g_cond_f rfl ?_
  refine g_skip ?_
  refine g_seq ?_
  refine g_region ?_
  refine l_build (v := .agg #[.int .i64 90, .int .i64 91, .int .i64 92, .int .i64 93, .int .i64 94, .int .i64 95, .int .i64 100, .int .i64 110, .int .i64 111, .int .i64 112, .int .i64 120, .int .i64 121, .int .i64 122, .int .i64 123, .int .i64 130, .int .i64 131, .int .i64 140, .int .i64 141, .int .i64 142, .int .i64 150, .int .i64 151]) rfl rfl bl_5_10 ?_
  refine l_allocs rfl Tryd.zeroValue29 ?_; intro b2
  refine l_sts Tryd.sizeOf29 rfl rfl rfl rfl rfl ?_
  refine l_nil ?_
  refine g_seq ?_
  refine g_seq ?_
  refine g_region ?_
  refine l_lds rfl Tryd.isAgg29 Tryd.sizeOf29 rfl rfl ?_
  refine l_build (v := .agg #[.int .i64 90, .int .i64 91, .int .i64 92, .int .i64 93, .int .i64 94, .int .i64 95, .int .i64 100, .int .i64 110, .int .i64 111, .int .i64 112, .int .i64 120, .int .i64 121, .int .i64 122, .int .i64 123, .int .i64 130, .int .i64 131, .int .i64 140, .int .i64 141, .int .i64 142, .int .i64 150, .int .i64 151]) rfl rfl bl_5_12 ?_
  refine l_bin rfl rfl rfl (cm_5_13g _ _) cm_5_13 ?_
  refine l_nil ?_
  refine g_cond_f rfl ?_
  refine g_skip ?_
  refine g_seq ?_
  refine g_region ?_
  refine l_build (v := .agg #[.int .i64 170, .int .i64 180, .int .i64 181, .int .i64 182, .int .i64 190, .int .i64 191, .int .i64 200, .int .i64 201, .int .i64 210, .int .i64 220, .int .i64 221, .int .i64 230, .int .i64 231, .int .i64 232, .int .i64 240, .int .i64 241, .int .i64 250, .int .i64 251, .int .i64 260, .int .i64 261, .int .i64 262, .int .i64 270, .int .i64 271, .int .i64 290, .int .i64 291, .int .i64 292, .int .i64 300, .int .i64 310, .int .i64 311, .int .i64 320, .int .i64 321]) rfl rfl bl_5_14 ?_
  refine l_allocs rfl Tryd.zeroValue30 ?_; intro b3
  refine l_sts Tryd.sizeOf30 rfl rfl rfl rfl rfl ?_
  refine l_nil ?_
  refine g_seq ?_
  refine g_seq ?_
  refine g_region ?_
  refine l_lds rfl Tryd.isAgg30 Tryd.sizeOf30 rfl rfl ?_
  refine l_build (v := .agg #[.int .i64 170, .int .i64 180, .int .i64 181, .int .i64 182, .int .i64 190, .int .i64 191, .int .i64 200, .int .i64 201, .int .i64 210, .int .i64 220, .int .i64 221, .int .i64 230, .int .i64 231, .int .i64 232, .int .i64 240, .int .i64 241, .int .i64 250, .int .i64 251, .int .i64 260, .int .i64 261, .int .i64 262, .int .i64 270, .int .i64 271, .int .i64 290, .int .i64 291, .int .i64 292, .int .i64 300, .int .i64 310, .int .i64 311, .int .i64 320, .int .i64 321]) rfl rfl bl_5_16 ?_
  refine l_bin rfl rfl rfl (cm_5_17g _ _) cm_5_17 ?_
  refine l_nil ?_
  refine g_cond_f rfl ?_
  refine g_skip ?_
  refine g_seq ?_
  refine g_region ?_
  refine l_build (v := .agg #[.int .i64 400, .int .i64 401, .int .i64 402, .int .i64 403, .int .i64 404, .int .i64 405, .int .i64 406, .int .i64 407, .int .i64 408, .int .i64 409, .int .i64 410, .int .i64 411, .int .i64 412, .int .i64 413, .int .i64 414, .int .i64 415, .int .i64 416, .int .i64 417, .int .i64 418, .int .i64 419, .int .i64 420, .int .i64 421, .int .i64 422, .int .i64 423, .int .i64 424]) rfl rfl bl_5_18 ?_
  refine l_allocs rfl Tryd.zeroValue31 ?_; intro b4
  refine l_sts Tryd.sizeOf31 rfl rfl rfl rfl rfl ?_
  refine l_nil ?_
  refine g_seq ?_
  refine g_seq ?_
  refine g_region ?_
  refine l_assign rfl rfl ?_
  refine l_nil ?_
  refine g_block ?_
  refine g_loopc (X := Int) [(4, _)] (.cons rfl (.nil)) (fun i => 0 ≤ i ∧ i ≤ 25) (fun i => (25 - i).toNat) (fun i => [(5, .int .i64 i)]) (0) (by omega) (.cons rfl .nil) ?_
  rintro i ⟨i0, i1⟩ ih
  dsimp only [List.cons_append, List.nil_append] at ih ⊢
  refine g_seq ?_
  refine g_seq ?_
  refine g_region ?_
  refine l_move rfl rfl ?_
  refine l_lss rfl rfl rfl ?_
  refine l_nil ?_
  refine g_cond rfl ?_ ?_
  · intro hbr
    have hbr := of_decide_eq_true hbr
    refine g_skip ?_
    refine g_seq ?_
    refine g_block ?_
    refine g_seq ?_
    refine g_region ?_
    refine l_move rfl rfl ?_
    refine l_ixa rfl Tryd.underlying31 Tryd.sizeOf27 rfl rfl (by omega) (by omega) ?_
    refine l_loadc (v := .int .i64 (400 + i)) rfl Tryd.isAgg27 rfl (ar_cell (b := b4) (by first | exact mem_getO 0 rfl | exact mem_getO 1 rfl | exact mem_getO 2 rfl | exact mem_getO 3 rfl | exact mem_getO 4 rfl | exact mem_getO 5 rfl) (errs_at (i := i) (by omega) (by omega))) ?_
    refine l_move rfl rfl ?_
    first | refine l_add rfl rfl rfl (w_i64 (by omega) (by omega)) ?_ | refine l_addw rfl rfl rfl ?_
    refine l_neq rfl rfl rfl ?_
    refine l_nil ?_
    refine g_cond rfl ?_ ?_
    · intro hbr
      have hbr := of_decide_eq_true hbr
      (exfalso; omega)
    intro hbr
    have hbr := of_decide_eq_false hbr
    refine g_skip ?_
    refine g_inBlock ?_
    refine g_region ?_
    refine l_move rfl rfl ?_
    first | refine l_add rfl rfl rfl (w_i64 (by omega) (by omega)) ?_ | refine l_addw rfl rfl rfl ?_
    refine l_assign rfl rfl ?_
    refine l_nil ?_
    exact g_againi (ih (i + 1) (by omega) (by omega)) (.cons rfl (.cons rfl (.nil)))
  intro hbr
  have hbr := of_decide_eq_false hbr
  refine g_exit rfl ?_
  refine g_seq ?_
  refine g_region ?_
  refine l_call rfl Tryd.call6 rfl (err17 _ _) ?_; rintro _ _ ⟨rfl, rfl⟩
  refine l_bin rfl rfl rfl (eqsg _ _) eqs ?_
  refine l_assign rfl rfl ?_
  refine l_nil ?_
  refine g_ret Tryd.func5 rfl (.tmp rfl .nil) ?_
  exact Gives.mki ⟨rfl, rfl⟩
theorem bl_3_8 (w : World) : (Instr.build 22 #[(0, .int .i64 16), (1, .int .i64 256), (2, .int .i64 4096), (3, .int .i64 16), (4, .int .i64 1024), (5, .int .i64 4), (6, .int .i64 8), (7, .int .i64 8), (8, .int .i64 8), (9, .int .i64 16), (10, .int .i64 4), (11, .int .i64 16), (12, .int .i64 8), (13, .int .i64 16), (14, .int .i64 16384), (15, .int .i64 15), (16, .int .i64 16), (17, .int .i64 16), (18, .int .i64 16), (19, .int .i64 1024), (20, .int .i64 65536), (21, .int .i64 16384), (22, .int .i64 4096), (23, .int .i64 1073741824), (24, .int .i64 4096), (25, .int .i64 8), (26, .int .i64 65536), (27, .int .i64 4), (28, .int .i64 2), (29, .int .i64 4), (30, .int .i64 4)]).run Tryd.prog w = .ok (.agg #[.int .i64 16, .int .i64 256, .int .i64 4096, .int .i64 16, .int .i64 1024, .int .i64 4, .int .i64 8, .int .i64 8, .int .i64 8, .int .i64 16, .int .i64 4, .int .i64 16, .int .i64 8, .int .i64 16, .int .i64 16384, .int .i64 15, .int .i64 16, .int .i64 16, .int .i64 16, .int .i64 1024, .int .i64 65536, .int .i64 16384, .int .i64 4096, .int .i64 1073741824, .int .i64 4096, .int .i64 8, .int .i64 65536, .int .i64 4, .int .i64 2, .int .i64 4, .int .i64 4]) w := by kernel_rfl
theorem bl_3_9 (w : World) : (Instr.build 22 #[(0, .int .i64 16), (1, .int .i64 256), (2, .int .i64 4096), (3, .int .i64 16), (4, .int .i64 1024), (5, .int .i64 4), (6, .int .i64 8), (7, .int .i64 8), (8, .int .i64 8), (9, .int .i64 16), (10, .int .i64 4), (11, .int .i64 16), (12, .int .i64 8), (13, .int .i64 16), (14, .int .i64 16384), (15, .int .i64 15), (16, .int .i64 16), (17, .int .i64 16), (18, .int .i64 16), (19, .int .i64 1024), (20, .int .i64 65536), (21, .int .i64 16384), (22, .int .i64 4096), (23, .int .i64 1073741824), (24, .int .i64 4096), (25, .int .i64 8), (26, .int .i64 65536), (27, .int .i64 4), (28, .int .i64 2), (29, .int .i64 4), (30, .int .i64 4)]).run Tryd.prog w = .ok (.agg #[.int .i64 16, .int .i64 256, .int .i64 4096, .int .i64 16, .int .i64 1024, .int .i64 4, .int .i64 8, .int .i64 8, .int .i64 8, .int .i64 16, .int .i64 4, .int .i64 16, .int .i64 8, .int .i64 16, .int .i64 16384, .int .i64 15, .int .i64 16, .int .i64 16, .int .i64 16, .int .i64 1024, .int .i64 65536, .int .i64 16384, .int .i64 4096, .int .i64 1073741824, .int .i64 4096, .int .i64 8, .int .i64 65536, .int .i64 4, .int .i64 2, .int .i64 4, .int .i64 4]) w := by kernel_rfl
theorem cm_3_12 (w : World) : (binOp .neq 22 (.agg #[.int .i64 16, .int .i64 256, .int .i64 4096, .int .i64 16, .int .i64 1024, .int .i64 4, .int .i64 8, .int .i64 8, .int .i64 8, .int .i64 16, .int .i64 4, .int .i64 16, .int .i64 8, .int .i64 16, .int .i64 16384, .int .i64 15, .int .i64 16, .int .i64 16, .int .i64 16, .int .i64 1024, .int .i64 65536, .int .i64 16384, .int .i64 4096, .int .i64 1073741824, .int .i64 4096, .int .i64 8, .int .i64 65536, .int .i64 4, .int .i64 2, .int .i64 4, .int .i64 4]) (.agg #[.int .i64 16, .int .i64 256, .int .i64 4096, .int .i64 16, .int .i64 1024, .int .i64 4, .int .i64 8, .int .i64 8, .int .i64 8, .int .i64 16, .int .i64 4, .int .i64 16, .int .i64 8, .int .i64 16, .int .i64 16384, .int .i64 15, .int .i64 16, .int .i64 16, .int .i64 16, .int .i64 1024, .int .i64 65536, .int .i64 16384, .int .i64 4096, .int .i64 1073741824, .int .i64 4096, .int .i64 8, .int .i64 65536, .int .i64 4, .int .i64 2, .int .i64 4, .int .i64 4])).run Tryd.prog w = .ok (.bool false) w := by kernel_rfl
theorem cm_3_12g (x y : Operand) (w : World) : (eqGuard .neq 22 x y (.agg #[.int .i64 16, .int .i64 256, .int .i64 4096, .int .i64 16, .int .i64 1024, .int .i64 4, .int .i64 8, .int .i64 8, .int .i64 8, .int .i64 16, .int .i64 4, .int .i64 16, .int .i64 8, .int .i64 16, .int .i64 16384, .int .i64 15, .int .i64 16, .int .i64 16, .int .i64 16, .int .i64 1024, .int .i64 65536, .int .i64 16384, .int .i64 4096, .int .i64 1073741824, .int .i64 4096, .int .i64 8, .int .i64 65536, .int .i64 4, .int .i64 2, .int .i64 4, .int .i64 4]) (.agg #[.int .i64 16, .int .i64 256, .int .i64 4096, .int .i64 16, .int .i64 1024, .int .i64 4, .int .i64 8, .int .i64 8, .int .i64 8, .int .i64 16, .int .i64 4, .int .i64 16, .int .i64 8, .int .i64 16, .int .i64 16384, .int .i64 15, .int .i64 16, .int .i64 16, .int .i64 16, .int .i64 1024, .int .i64 65536, .int .i64 16384, .int .i64 4096, .int .i64 1073741824, .int .i64 4096, .int .i64 8, .int .i64 65536, .int .i64 4, .int .i64 2, .int .i64 4, .int .i64 4])).run Tryd.prog w = .ok () w := by kernel_rfl
theorem bl_3_13 (w : World) : (Instr.build 23 #[(0, .int .i64 1), (1, .int .i64 7), (2, .int .i64 6), (3, .int .i64 10), (4, .int .i64 24), (5, .int .i64 46), (6, .int .i64 37), (7, .int .i64 82)]).run Tryd.prog w = .ok (.agg #[.int .i64 1, .int .i64 7, .int .i64 6, .int .i64 10, .int .i64 24, .int .i64 46, .int .i64 37, .int .i64 82]) w := by kernel_rfl
theorem bl_3_15 (w : World) : (Instr.build 23 #[(0, .int .i64 1), (1, .int .i64 7), (2, .int .i64 6), (3, .int .i64 10), (4, .int .i64 24), (5, .int .i64 46), (6, .int .i64 37), (7, .int .i64 82)]).run Tryd.prog w = .ok (.agg #[.int .i64 1, .int .i64 7, .int .i64 6, .int .i64 10, .int .i64 24, .int .i64 46, .int .i64 37, .int .i64 82]) w := by kernel_rfl
theorem cm_3_16 (w : World) : (binOp .neq 23 (.agg #[.int .i64 1, .int .i64 7, .int .i64 6, .int .i64 10, .int .i64 24, .int .i64 46, .int .i64 37, .int .i64 82]) (.agg #[.int .i64 1, .int .i64 7, .int .i64 6, .int .i64 10, .int .i64 24, .int .i64 46, .int .i64 37, .int .i64 82])).run Tryd.prog w = .ok (.bool false) w := by kernel_rfl
theorem cm_3_16g (x y : Operand) (w : World) : (eqGuard .neq 23 x y (.agg #[.int .i64 1, .int .i64 7, .int .i64 6, .int .i64 10, .int .i64 24, .int .i64 46, .int .i64 37, .int .i64 82]) (.agg #[.int .i64 1, .int .i64 7, .int .i64 6, .int .i64 10, .int .i64 24, .int .i64 46, .int .i64 37, .int .i64 82])).run Tryd.prog w = .ok () w := by kernel_rfl
theorem bl_3_17 (w : World) : (Instr.build 22 #[(0, .int .i64 1), (1, .int .i64 2), (2, .int .i64 3), (3, .int .i64 4), (4, .int .i64 5), (5, .int .i64 6), (6, .int .i64 7), (7, .int .i64 8), (8, .int .i64 9), (9, .int .i64 10), (10, .int .i64 11), (11, .int .i64 12), (12, .int .i64 13), (13, .int .i64 14), (14, .int .i64 15), (15, .int .i64 16), (16, .int .i64 17), (17, .int .i64 18), (18, .int .i64 19), (19, .int .i64 20), (20, .int .i64 21), (21, .int .i64 22), (22, .int .i64 23), (23, .int .i64 24), (24, .int .i64 25), (25, .int .i64 26), (26, .int .i64 27), (27, .int .i64 28), (28, .int .i64 29), (29, .int .i64 30), (30, .int .i64 31)]).run Tryd.prog w = .ok (.agg #[.int .i64 1, .int .i64 2, .int .i64 3, .int .i64 4, .int .i64 5, .int .i64 6, .int .i64 7, .int .i64 8, .int .i64 9, .int .i64 10, .int .i64 11, .int .i64 12, .int .i64 13, .int .i64 14, .int .i64 15, .int .i64 16, .int .i64 17, .int .i64 18, .int .i64 19, .int .i64 20, .int .i64 21, .int .i64 22, .int .i64 23, .int .i64 24, .int .i64 25, .int .i64 26, .int .i64 27, .int .i64 28, .int .i64 29, .int .i64 30, .int .i64 31]) w := by kernel_rfl
theorem bl_3_28 (w : World) : (Instr.build 24 #[(0, .int .i64 0), (1, .int .i64 1), (2, .int .i64 2), (3, .int .i64 3), (4, .int .i64 4), (5, .int .i64 5), (6, .int .i64 6), (7, .int .i64 7), (8, .int .i64 8)]).run Tryd.prog w = .ok (.agg #[.int .i64 0, .int .i64 1, .int .i64 2, .int .i64 3, .int .i64 4, .int .i64 5, .int .i64 6, .int .i64 7, .int .i64 8]) w := by kernel_rfl
theorem names_ok (w0 : World) (F : List Atom)  :
    CallK Tryd.prog 3 [] w0 (F) (Gives w0 fun v F2 => v = .bool true ∧ F2 = F) := by
  refine c_enter Tryd.func3 rfl rfl rfl ?_
  refine g_seq ?_
  refine g_region ?_
  refine l_assign rfl rfl ?_
  refine l_nil ?_
  refine g_seq ?_
  refine g_region ?_
  refine l_build (v := .agg #[.int .i64 16, .int .i64 256, .int .i64 4096, .int .i64 16, .int .i64 1024, .int .i64 4, .int .i64 8, .int .i64 8, .int .i64 8, .int .i64 16, .int .i64 4, .int .i64 16, .int .i64 8, .int .i64 16, .int .i64 16384, .int .i64 15, .int .i64 16, .int .i64 16, .int .i64 16, .int .i64 1024, .int .i64 65536, .int .i64 16384, .int .i64 4096, .int .i64 1073741824, .int .i64 4096, .int .i64 8, .int .i64 65536, .int .i64 4, .int .i64 2, .int .i64 4, .int .i64 4]) rfl rfl bl_3_8 ?_
  refine l_allocs rfl Tryd.zeroValue22 ?_; intro b1
  refine l_sts Tryd.sizeOf22 rfl rfl rfl rfl rfl ?_
  refine l_nil ?_
  refine g_seq ?_
  refine g_region ?_
  refine l_build (v := .agg #[.int .i64 16, .int .i64 256, .int .i64 4096, .int .i64 16, .int .i64 1024, .int .i64 4, .int .i64 8, .int .i64 8, .int .i64 8, .int .i64 16, .int .i64 4, .int .i64 16, .int .i64 8, .int .i64 16, .int .i64 16384, .int .i64 15, .int .i64 16, .int .i64 16, .int .i64 16, .int .i64 1024, .int .i64 65536, .int .i64 16384, .int .i64 4096, .int .i64 1073741824, .int .i64 4096, .int .i64 8, .int .i64 65536, .int .i64 4, .int .i64 2, .int .i64 4, .int .i64 4]) rfl rfl bl_3_9 ?_
  refine l_allocs rfl Tryd.zeroValue22 ?_; intro b2
  refine l_sts Tryd.sizeOf22 rfl rfl rfl rfl rfl ?_
  refine l_nil ?_
  refine g_seq ?_
  refine g_seq ?_
  refine g_region ?_
  refine l_lds rfl Tryd.isAgg22 Tryd.sizeOf22 rfl rfl ?_
  refine l_lds rfl Tryd.isAgg22 Tryd.sizeOf22 rfl rfl ?_
  refine l_bin rfl rfl rfl (cm_3_12g _ _) cm_3_12 ?_
  refine l_nil ?_
  refine g_cond_f rfl ?_
  refine g_skip ?_
  refine g_seq ?_
  refine g_region ?_
  refine l_build (v := .agg #[.int .i64 1, .int .i64 7, .int .i64 6, .int .i64 10, .int .i64 24, .int .i64 46, .int .i64 37, .int .i64 82]) rfl rfl bl_3_13 ?_
  refine l_allocs rfl Tryd.zeroValue23 ?_; intro b3
  refine l_sts Tryd.sizeOf23 rfl rfl rfl rfl rfl ?_
  refine l_nil ?_
  refine g_seq ?_
  refine g_seq ?_
  refine g_region ?_
  refine l_lds rfl Tryd.isAgg23 Tryd.sizeOf23 rfl rfl ?_
  refine l_build (v := .agg #[.int .i64 1, .int .i64 7, .int .i64 6, .int .i64 10, .int .i64 24, .int .i64 46, .int .i64 37, .int .i64 82]) rfl rfl bl_3_15 ?_
  refine l_bin rfl rfl rfl (cm_3_16g _ _) cm_3_16 ?_
  refine l_nil ?_
  refine g_cond_f rfl ?_
  refine g_skip ?_
  refine g_seq ?_
  refine g_region ?_
  refine l_build (v := .agg #[.int .i64 1, .int .i64 2, .int .i64 3, .int .i64 4, .int .i64 5, .int .i64 6, .int .i64 7, .int .i64 8, .int .i64 9, .int .i64 10, .int .i64 11, .int .i64 12, .int .i64 13, .int .i64 14, .int .i64 15, .int .i64 16, .int .i64 17, .int .i64 18, .int .i64 19, .int .i64 20, .int .i64 21, .int .i64 22, .int .i64 23, .int .i64 24, .int .i64 25, .int .i64 26, .int .i64 27, .int .i64 28, .int .i64 29, .int .i64 30, .int .i64 31]) rfl rfl bl_3_17 ?_
  refine l_allocs rfl Tryd.zeroValue22 ?_; intro b4
  refine l_sts Tryd.sizeOf22 rfl rfl rfl rfl rfl ?_
  refine l_nil ?_
  refine g_seq ?_
  refine g_seq ?_
  refine g_region ?_
  refine l_assign rfl rfl ?_
  refine l_nil ?_
  refine g_block ?_
  refine g_loopc (X := Int) [(4, _)] (.cons rfl (.nil)) (fun i => 0 ≤ i ∧ i ≤ 31) (fun i => (31 - i).toNat) (fun i => [(5, .int .i64 i)]) (0) (by omega) (.cons rfl .nil) ?_
  rintro i ⟨i0, i1⟩ ih
  dsimp only [List.cons_append, List.nil_append] at ih ⊢
  refine g_seq ?_
  refine g_seq ?_
  refine g_region ?_
  refine l_move rfl rfl ?_
  refine l_lss rfl rfl rfl ?_
  refine l_nil ?_
  refine g_cond rfl ?_ ?_
  · intro hbr
    have hbr := of_decide_eq_true hbr
    refine g_skip ?_
    refine g_seq ?_
    refine g_block ?_
    refine g_seq ?_
    refine g_region ?_
    refine l_move rfl rfl ?_
    refine l_ixa rfl Tryd.underlying22 Tryd.sizeOf3 rfl rfl (by omega) (by omega) ?_
    refine l_loadc (v := .int .i64 (i + 1)) rfl Tryd.isAgg3 rfl (ar_cell (b := b4) (by first | exact mem_getO 0 rfl | exact mem_getO 1 rfl | exact mem_getO 2 rfl | exact mem_getO 3 rfl | exact mem_getO 4 rfl | exact mem_getO 5 rfl) (ops_at (i := i) (by omega) (by omega))) ?_
    refine l_move rfl rfl ?_
    first | refine l_add rfl rfl rfl (w_i64 (by omega) (by omega)) ?_ | refine l_addw rfl rfl rfl ?_
    refine l_neq rfl rfl rfl ?_
    refine l_nil ?_
    refine g_cond rfl ?_ ?_
    · intro hbr
      have hbr := of_decide_eq_true hbr
      (exfalso; omega)
    intro hbr
    have hbr := of_decide_eq_false hbr
    refine g_skip ?_
    refine g_inBlock ?_
    refine g_region ?_
    refine l_move rfl rfl ?_
    first | refine l_add rfl rfl rfl (w_i64 (by omega) (by omega)) ?_ | refine l_addw rfl rfl rfl ?_
    refine l_assign rfl rfl ?_
    refine l_nil ?_
    exact g_againi (ih (i + 1) (by omega) (by omega)) (.cons rfl (.cons rfl (.nil)))
  intro hbr
  have hbr := of_decide_eq_false hbr
  refine g_exit rfl ?_
  refine g_seq ?_
  refine g_region ?_
  refine l_build (v := .agg #[.int .i64 0, .int .i64 1, .int .i64 2, .int .i64 3, .int .i64 4, .int .i64 5, .int .i64 6, .int .i64 7, .int .i64 8]) rfl rfl bl_3_28 ?_
  refine l_allocs rfl Tryd.zeroValue24 ?_; intro b6
  refine l_sts Tryd.sizeOf24 rfl rfl rfl rfl rfl ?_
  refine l_nil ?_
  refine g_seq ?_
  refine g_seq ?_
  refine g_region ?_
  refine l_assign rfl rfl ?_
  refine l_nil ?_
  refine g_block ?_
  refine g_loopc (X := Int) [(6, _)] (.cons rfl (.nil)) (fun i => 0 ≤ i ∧ i ≤ 9) (fun i => (9 - i).toNat) (fun i => [(7, .int .i64 i)]) (0) (by omega) (.cons rfl .nil) ?_
  rintro i ⟨i0, i1⟩ ihk
  dsimp only [List.cons_append, List.nil_append] at ihk ⊢
  refine g_seq ?_
  refine g_seq ?_
  refine g_region ?_
  refine l_move rfl rfl ?_
  refine l_lss rfl rfl rfl ?_
  refine l_nil ?_
  refine g_cond rfl ?_ ?_
  · intro hbr
    have hbr := of_decide_eq_true hbr
    refine g_skip ?_
    refine g_seq ?_
    refine g_block ?_
    refine g_seq ?_
    refine g_region ?_
    refine l_move rfl rfl ?_
    refine l_ixa rfl Tryd.underlying24 Tryd.sizeOf3 rfl rfl (by omega) (by omega) ?_
    refine l_loadc (v := .int .i64 (i)) rfl Tryd.isAgg3 rfl (ar_cell (b := b6) (by first | exact mem_getO 0 rfl | exact mem_getO 1 rfl | exact mem_getO 2 rfl | exact mem_getO 3 rfl | exact mem_getO 4 rfl | exact mem_getO 5 rfl) (calls_at (i := i) (by omega) (by omega))) ?_
    refine l_move rfl rfl ?_
    refine l_neq rfl rfl rfl ?_
    refine l_nil ?_
    refine g_cond rfl ?_ ?_
    · intro hbr
      have hbr := of_decide_eq_true hbr
      (exfalso; omega)
    intro hbr
    have hbr := of_decide_eq_false hbr
    refine g_skip ?_
    refine g_inBlock ?_
    refine g_region ?_
    refine l_move rfl rfl ?_
    first | refine l_add rfl rfl rfl (w_i64 (by omega) (by omega)) ?_ | refine l_addw rfl rfl rfl ?_
    refine l_assign rfl rfl ?_
    refine l_nil ?_
    exact g_againi (ihk (i + 1) (by omega) (by omega)) (.cons rfl (.cons rfl (.nil)))
  intro hbr
  have hbr := of_decide_eq_false hbr
  refine g_exit rfl ?_
  refine g_seq ?_
  refine g_region ?_
  refine l_call rfl Tryd.call4 rfl (kinds_ok _ _) ?_; rintro _ _ ⟨rfl, rfl⟩
  refine l_move rfl rfl ?_
  refine l_guard_yes rfl rfl ?_
  refine l_call rfl Tryd.call5 rfl (errors_ok _ _) ?_; rintro _ _ ⟨rfl, rfl⟩
  refine l_pick_t rfl rfl rfl ?_
  refine l_assign rfl rfl ?_
  refine l_nil ?_
  refine g_ret Tryd.func3 rfl (.tmp rfl .nil) ?_
  exact Gives.mki ⟨rfl, rfl⟩
end Go.Proofs.YtbajbmfheomkoaaDoor.Fw
