import Derived.Test.YtoflbmjdpngdiaaLaw
namespace Go.Proofs.Ytoflbmjdpngdiaa.Fw
open Go Go.Proofs
set_option linter.unusedVariables false
set_option linter.unusedSimpArgs false
set_option maxRecDepth 10000

theorem names_ok (w0 : World) (F : List Atom)  :
    CallK Try.prog 3 [] w0 (F) (Gives w0 fun v F2 => v = .bool true ∧ F2 = F) := by
  refine c_enter Try.func3 rfl rfl rfl ?_
  refine g_seq ?_
  refine g_region ?_
  refine l_assign rfl rfl ?_
  refine l_nil ?_
  refine g_seq ?_
  refine g_region ?_
  refine l_move rfl rfl ?_
  refine l_guard_yes rfl rfl ?_
  refine l_call rfl Try.call7 rfl (meets_ok _ _ _ _ _ (by omega) (by omega) (by omega)) ?_; rintro _ _ ⟨rfl, rfl⟩
  refine l_pick_t rfl rfl rfl ?_
  refine l_assign rfl rfl ?_
  refine l_nil ?_
  refine g_ret Try.func3 rfl (.tmp rfl .nil) ?_
  exact Gives.mk ⟨rfl, rfl⟩ .refl
theorem law_meets (w0 : World) (F : List Atom) (a b c : Int) (ha : 0 ≤ a ∧ a ≤ 255) (hb : 0 ≤ b ∧ b ≤ 4294967295) (hc : 0 ≤ c ∧ c ≤ 255) :
    CallK Try.prog 4 [.int .u8 a, .int .u32 b, .int .u8 c] w0 (F) (Gives w0 fun v F2 => v = .bool true ∧ F2 = F) := by
  refine c_enter Try.func4 rfl rfl rfl ?_
  refine g_seq ?_
  refine g_region ?_
  refine l_assign rfl rfl ?_
  refine l_nil ?_
  refine g_seq ?_
  refine g_region ?_
  refine l_move rfl rfl ?_
  refine l_rem rfl rfl rfl (by omega) (by omega) (w_u8 (by omega) (by omega)) ?_
  first | refine l_conv rfl Try.underlying5 Try.underlying3 rfl (w_i64 (by omega) (by omega)) ?_ | refine l_convw rfl Try.underlying5 Try.underlying3 rfl ?_
  first | refine l_add rfl rfl rfl (w_i64 (by omega) (by omega)) ?_ | refine l_addw rfl rfl rfl ?_
  refine l_move rfl rfl ?_
  refine l_move rfl rfl ?_
  refine l_rem rfl rfl rfl (by omega) (by omega) (w_u8 (by omega) (by omega)) ?_
  first | refine l_conv rfl Try.underlying5 Try.underlying3 rfl (w_i64 (by omega) (by omega)) ?_ | refine l_convw rfl Try.underlying5 Try.underlying3 rfl ?_
  first | refine l_add rfl rfl rfl (w_i64 (by omega) (by omega)) ?_ | refine l_addw rfl rfl rfl ?_
  refine l_call rfl Try.call7 rfl (meets_ok _ _ _ _ _ (by omega) (by omega) (by omega)) ?_; rintro _ _ ⟨rfl, rfl⟩
  refine l_assign rfl rfl ?_
  refine l_nil ?_
  refine g_ret Try.func4 rfl (.tmp rfl .nil) ?_
  exact Gives.mk ⟨rfl, rfl⟩ .refl
end Go.Proofs.Ytoflbmjdpngdiaa.Fw
