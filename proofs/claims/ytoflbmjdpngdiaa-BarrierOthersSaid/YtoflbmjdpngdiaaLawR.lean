import Derived.Test.YtoflbmjdpngdiaaPlays
import Derived.Test.YtoflbmjdpngdiaaOth
namespace Go.Proofs.Ytoflbmjdpngdiaa.Fw
open Go Go.Proofs
set_option linter.unusedVariables false
set_option linter.unusedSimpArgs false
set_option maxRecDepth 10000

theorem names_ok (w0 : World) (F : List Atom)  :
    CallK Try.prog 3 [] w0 (F) (Gives w0 fun v F2 => v = .bool true ∧ F2 = F) := by
  refine c_enter Try.func3 rfl rfl rfl ?_
  refine g_seq ?_
  refine g_region ?_
  refine l_assign rfl rfl ?_
  refine l_nil ?_
  refine g_seq ?_
  refine g_region ?_
  refine l_move rfl rfl ?_
  refine l_guard_yes rfl rfl ?_
  refine l_call rfl Try.call7 rfl (meets_ok _ _ _ _ _ (by omega) (by omega) (by omega)) ?_; rintro _ _ ⟨rfl, rfl⟩
  refine l_pick_t rfl rfl rfl ?_
  refine l_assign rfl rfl ?_
  refine l_nil ?_
  refine g_ret Try.func3 rfl (.tmp rfl .nil) ?_
  exact Gives.mk ⟨rfl, rfl⟩ .refl
theorem law_meets (w0 : World) (F : List Atom) (a b c : Int) (ha : 0 ≤ a ∧ a ≤ 255) (hb : 0 ≤ b ∧ b ≤ 4294967295) (hc : 0 ≤ c ∧ c ≤ 255) :
    CallK Try.prog 4 [.int .u8 a, .int .u32 b, .int .u8 c] w0 (F) (Gives w0 fun v F2 => v = .bool true ∧ F2 = F) := by
  refine c_enter Try.func4 rfl rfl rfl ?_
  refine g_seq ?_
  refine g_region ?_
  refine l_assign rfl rfl ?_
  refine l_nil ?_
  refine g_seq ?_
  refine g_region ?_
  refine l_move rfl rfl ?_
  refine l_rem rfl rfl rfl (by omega) (by omega) (w_u8 (by omega) (by omega)) ?_
  first | refine l_conv rfl Try.underlying5 Try.underlying3 rfl (w_i64 (by omega) (by omega)) ?_ | refine l_convw rfl Try.underlying5 Try.underlying3 rfl ?_
  first | refine l_add rfl rfl rfl (w_i64 (by omega) (by omega)) ?_ | refine l_addw rfl rfl rfl ?_
  refine l_move rfl rfl ?_
  refine l_move rfl rfl ?_
  refine l_rem rfl rfl rfl (by omega) (by omega) (w_u8 (by omega) (by omega)) ?_
  first | refine l_conv rfl Try.underlying5 Try.underlying3 rfl (w_i64 (by omega) (by omega)) ?_ | refine l_convw rfl Try.underlying5 Try.underlying3 rfl ?_
  first | refine l_add rfl rfl rfl (w_i64 (by omega) (by omega)) ?_ | refine l_addw rfl rfl rfl ?_
  refine l_call rfl Try.call7 rfl (meets_ok _ _ _ _ _ (by omega) (by omega) (by omega)) ?_; rintro _ _ ⟨rfl, rfl⟩
  refine l_assign rfl rfl ?_
  refine l_nil ?_
  refine g_ret Try.func4 rfl (.tmp rfl .nil) ?_
  exact Gives.mk ⟨rfl, rfl⟩ .refl
theorem vis_s37 {w : World} {r : List Value} (h : Vis Try.prog w 37 r) : ∃ (x0 : Int) (x1 : Int) (x2 : Int) (x3 : Int), r = [.int .i64 x0, .int .i64 x1, .int .i64 x2, .int .u32 x3] ∧ (Lit.int .i64 x0).wf = true ∧ (Lit.int .i64 x1).wf = true ∧ (Lit.int .i64 x2).wf = true ∧ (Lit.int .u32 x3).wf = true := by
  obtain ⟨hl, hf⟩ := vis_struct Try.underlying37 h
  have hc : Try.prog.cellsOf 37 = 4 := by kernel_rfl
  have c23 : Try.prog.cellsOf 23 = 1 := by kernel_rfl
  have c3 : Try.prog.cellsOf 3 = 1 := by kernel_rfl
  match r, hl.trans hc with
  | [z0, z1, z2, z3], _ =>
    obtain ⟨x0, e0, w0⟩ := vis_int Try.underlying3 (hf 0 _ rfl)
    obtain ⟨x1, e1, w1⟩ := vis_int Try.underlying3 (hf 1 _ rfl)
    obtain ⟨x2, e2, w2⟩ := vis_int Try.underlying3 (hf 2 _ rfl)
    obtain ⟨x3, e3, w3⟩ := vis_int Try.underlying23 (hf 3 _ rfl)
    simp [c23, c3] at e0 e1 e2 e3
    subst e0 e1 e2 e3
    exact ⟨x0, x1, x2, x3, rfl, w0, w1, w2, w3⟩
theorem vis_op {w : World} {r : List Value} (h : Vis Try.prog w 37 r) : ∃ o, r = opRow o ∧ OpOk o := by
  obtain ⟨a, b, c, d, rfl, w0, w1, w2, w3⟩ := vis_s37 h
  exact ⟨(a, b, c, d), rfl, wf_i64 w1, wf_i64 w2, wf_u32 w3⟩
theorem plays_all (W : World) (a0 : Option Addr) (n0 c0 : Nat) (X0 : List Int) (hc0 : n0 ≤ c0) (hm0 : c0 ≤ maxLen) (hl0 : X0.length = n0) (hwf0 : ∀ x ∈ X0, (Lit.int .u32 x).wf = true)
    (hr0 : (n0 = 0 ∧ (a0 = none → c0 = 0)) ∨ ∃ b o, a0 = some ⟨b, o, none⟩ ∧ ∀ (j : Nat) u, (ints .u32 X0)[j]? = some u → W.cell? ⟨b, o + j, none⟩ = some u)
    (a1 : Option Addr) (n1 c1 : Nat) (rows : List (List Value)) (hc1 : n1 ≤ c1) (hm1 : c1 ≤ maxLen) (hl1 : rows.length = n1) (hv1 : ∀ r ∈ rows, r.length = 4 ∧ Vis Try.prog W 37 r)
    (hr1 : (n1 = 0 ∧ (a1 = none → c1 = 0)) ∨ ∃ b o, a1 = some ⟨b, o, none⟩ ∧ ∀ (j : Nat) u, rows.flatten[j]? = some u → W.cell? ⟨b, o + j, none⟩ = some u) :
    CallK Try.prog 5 [.slice a0 n0 c0, .slice a1 n1 c1] W [Old W] (Gives W fun v F2 => v = .bool true ∧ F2 = [Old W]) := by
  simp only [maxLen] at hm0 hm1
  obtain ⟨L, hL, hLok⟩ := rows_choose (f := opRow) (R := OpOk) (rows := rows) (fun r hr => vis_op (hv1 r hr).2)
  have hU : U32s X0 := U32s.of fun x hx => wf_u32 (hwf0 x hx)
  by_cases h1 : n0 ≤ 16384
  · by_cases h2 : n0 = 0 ∨ n0 % 16 ≠ 0
    · exact plays_bad W [Old W] a0 n0 c0 (by omega) h1 h2 _
    · rcases hr0 with ⟨h, _⟩ | ⟨b, o, rfl, hr⟩
      · omega
      · have hrow : RowAt W [Old W] b o (ints .u32 X0) := RowAt.old (by simp) hr
        rcases hr1 with ⟨h, _⟩ | ⟨bs, os_, rfl, hs⟩
        · exact plays_none W [Old W] b o n0 c0 X0 hl0 hc0 hrow hU h1 (by omega) (by omega) a1 n1 c1 h
        · subst hL
          exact plays_some W [Old W] b o n0 c0 X0 hl0 hc0 hrow hU h1 (by omega) (by omega) bs os_ n1 c1 L (by simpa using hl1) (by omega) hLok (RowAt.old (by simp) hs)
  · exact plays_long W [Old W] a0 n0 c0 (by omega) (by omega) _
theorem others_all (W : World) (a0 : Option Addr) (n0 c0 : Nat) (X0 : List Int) (hc0 : n0 ≤ c0) (hm0 : c0 ≤ maxLen) (hl0 : X0.length = n0) (hwf0 : ∀ x ∈ X0, (Lit.int .u32 x).wf = true)
    (hr0 : (n0 = 0 ∧ (a0 = none → c0 = 0)) ∨ ∃ b o, a0 = some ⟨b, o, none⟩ ∧ ∀ (j : Nat) u, (ints .u32 X0)[j]? = some u → W.cell? ⟨b, o + j, none⟩ = some u) (l : List Value) (hv : Vis Try.prog W 37 l) :
    CallK Try.prog 6 [.slice a0 n0 c0, .agg l.toArray] W [Old W] (Gives W fun v F2 => v = .bool true ∧ F2 = [Old W]) := by
  simp only [maxLen] at hm0
  have hU : U32s X0 := U32s.of fun x hx => wf_u32 (hwf0 x hx)
  by_cases h1 : n0 ≤ 16384
  · by_cases h2 : n0 = 0 ∨ n0 % 16 ≠ 0
    · exact oth_nobad W [Old W] a0 n0 c0 (by omega) h1 h2 _
    · rcases hr0 with ⟨h, _⟩ | ⟨b, o, rfl, hr⟩
      · omega
      · have hrow : RowAt W [Old W] b o (ints .u32 X0) := RowAt.old (by simp) hr
        obtain ⟨kd, at_, kk, x, rfl, w0, w1, w2, w3⟩ := vis_s37 hv
        obtain ⟨a0, a1⟩ := wf_i64 w1
        obtain ⟨k0, k1⟩ := wf_i64 w2
        obtain ⟨x0, x1⟩ := wf_u32 w3
        by_cases hk : kd = 0
        · by_cases h : inR n0 at_ 2
          · exact oth_look_ok W [Old W] b o n0 c0 X0 hl0 hc0 hrow hU h1 (by omega) (by omega) kd at_ kk x a0 a1 k0 k1 x0 x1 hk h
          · exact oth_look_out W [Old W] b o n0 c0 X0 hl0 hc0 hrow hU h1 (by omega) (by omega) kd at_ kk x a0 a1 k0 k1 x0 x1 hk h
        by_cases hk1 : kd = 1
        · by_cases h : inR n0 at_ 2
          · by_cases hq : 1 ≤ kk ∧ kk ≤ 4
            · by_cases hf : kk ≤ X0.getD at_.toNat 0
              · exact oth_come_full W [Old W] b o n0 c0 X0 hl0 hc0 hrow hU h1 (by omega) (by omega) kd at_ kk x a0 a1 k0 k1 x0 x1 hk1 h hq hf
              · exact oth_come_ok W [Old W] b o n0 c0 X0 hl0 hc0 hrow hU h1 (by omega) (by omega) kd at_ kk x a0 a1 k0 k1 x0 x1 hk1 h hq hf
            · exact oth_come_bad W [Old W] b o n0 c0 X0 hl0 hc0 hrow hU h1 (by omega) (by omega) kd at_ kk x a0 a1 k0 k1 x0 x1 hk1 h hq
          · exact oth_come_out W [Old W] b o n0 c0 X0 hl0 hc0 hrow hU h1 (by omega) (by omega) kd at_ kk x a0 a1 k0 k1 x0 x1 hk1 h
        by_cases h : inR n0 at_ 2
        · by_cases hq : 1 ≤ kk ∧ kk ≤ 4
          · by_cases hf : X0.getD at_.toNat 0 < kk
            · exact oth_open_short W [Old W] b o n0 c0 X0 hl0 hc0 hrow hU h1 (by omega) (by omega) kd at_ kk x a0 a1 k0 k1 x0 x1 ⟨hk, hk1⟩ h hq hf
            · by_cases hf2 : kk < X0.getD at_.toNat 0
              · exact oth_open_full W [Old W] b o n0 c0 X0 hl0 hc0 hrow hU h1 (by omega) (by omega) kd at_ kk x a0 a1 k0 k1 x0 x1 ⟨hk, hk1⟩ h hq hf2
              · exact oth_open_ok W [Old W] b o n0 c0 X0 hl0 hc0 hrow hU h1 (by omega) (by omega) kd at_ kk x a0 a1 k0 k1 x0 x1 ⟨hk, hk1⟩ h hq (by omega)
          · exact oth_open_bad W [Old W] b o n0 c0 X0 hl0 hc0 hrow hU h1 (by omega) (by omega) kd at_ kk x a0 a1 k0 k1 x0 x1 ⟨hk, hk1⟩ h hq
        · exact oth_open_out W [Old W] b o n0 c0 X0 hl0 hc0 hrow hU h1 (by omega) (by omega) kd at_ kk x a0 a1 k0 k1 x0 x1 ⟨hk, hk1⟩ h
  · exact oth_long W [Old W] a0 n0 c0 (by omega) (by omega) _
end Go.Proofs.Ytoflbmjdpngdiaa.Fw
