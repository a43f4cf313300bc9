/- AluDoes: what Do and Does answer is what the document says: for every operation and every two words. -/
import Derived.Test.YtjegoojkjcjpnaaRows
import Derived.Test.YtjegoojkjcjpnaaDoesLaw
import Derived.WalkKit
import Derived.ProofKit
import Derived.OpenShut
import Derived.ShutString
import Derived.ChangeOld
import Derived.Below
import Derived.SizedLaws
import Derived.Lib.SmallJoins
namespace Go.Proofs.Ytjegoojkjcjpnaa.aluDoes
open Go.ChangeShapes Go.WideShapes Go.ChangeAt Go.RowKit Go.Joins
set_option linter.unusedVariables false
theorem own : ownKnob Try.prog.godebug = none := by kernel_rfl
theorem cells24 : Try.prog.cellsOf 24 = 3 := by kernel_rfl
set_option maxRecDepth 100000 in
theorem lifted (os : Os) (started : os.Started) (H : Type) (enc : TypeId × Value → H) :
    ReturnsInHanded {} Try.checked os 8 .any (Rows.aluDoesSpec.pre6 enc Try.prog Try.f8 Rows.aluDoesRow.domain false) (Rows.aluDoesSpec.post enc Try.prog Try.f8 false true false false) := by
  refine returnsInHanded_of_change_sized (C := Try.checked) own started (by kernel_rfl) Try.func8
    (ChangeSpec.witness6 (enc := enc) (C := Try.checked) false ⟨#[], #[.agg #[.int .i64 0, .int .u32 0, .int .u32 0]], []⟩ 8 (by kernel_rfl) (by kernel_rfl) (by kernel_rfl) (by kernel_rfl)) ?_
  intro W base args ds gs before hval0 hW hcnd hsz0 _
  have hval : ∀ (j : Nat) t v, Try.f8.params[j]? = some t → args[j]? = some v → Value.okWide Try.prog W .any base t v := hval0
  have hW' := hW
  obtain ⟨p, q, hA0, hV, rfl, hfz, hnd⟩ := hW
  have hA : DataW.TrodAll enc Try.prog W 0 (fun _ => true) true Try.f8.params.toList args.toList ds p := hA0
  rw [Try.params8] at hA hval
  obtain ⟨v0, vs0, d0, ds0, p0, q0, hargs, rfl, rfl, h0, r0⟩ := trodAll_cons hA
  obtain ⟨rfl, rfl, rfl⟩ := trodAll_nil r0
  obtain rfl : args = #[v0] := by cases args; simp_all
  obtain ⟨rfl, rfl⟩ := trodVars_none hV
  obtain ⟨c0, c1, c2, y0, y1, y2, m, rfl, rfl, rfl, hy0, hy1, hy2⟩ := open_agg3 Try.underlying24 (by kernel_rfl) cells24 (hval 0 24 v0 rfl rfl) h0
  obtain ⟨a0, e0, rfl, w0⟩ := DataW.trod_int Try.underlying3 hy0
  obtain ⟨a1, e1, rfl, w1⟩ := DataW.trod_int Try.underlying22 hy1
  obtain ⟨a2, e2, rfl, w2⟩ := DataW.trod_int Try.underlying22 hy2
  simp at e0 e1 e2
  subst e0 e1 e2
  clear hA0 hval0 hsz0
  refine (DoesWalk.law_any a0 a1 a2 W (Plain.u32_bounds w1).1 (Plain.u32_bounds w1).2 (Plain.u32_bounds w2).1 (Plain.u32_bounds w2).2).mono fun e W' ⟨he, bel⟩ => ?_
  subst he
  have reads : ∀ (W' : World) (sp : Nat → Bool), DataW.Trod enc Try.prog W' 0 sp true 24 (.agg #[.int .i64 a0, .int .u32 a1, .int .u32 a2]) (.agg [.lit (.int .i64 a0), .lit (.int .u32 a1), .lit (.int .u32 a2)]) [] := fun W' sp =>
    shut_agg3 (y0 := (.lit (.int .i64 a0), [])) (y1 := (.lit (.int .u32 a1), [])) (y2 := (.lit (.int .u32 a2), [])) Try.underlying24 (by kernel_rfl) cells24 ⟨1, by simp [DataW.trod, Try.underlying3, w0]⟩ ⟨1, by simp [DataW.trod, Try.underlying22, w1]⟩ ⟨1, by simp [DataW.trod, Try.underlying22, w2]⟩
  exact ⟨_, rfl, _, _, _, [], _, [], hW', trodAll_mk1 (shut_bool Try.underlying4 _), trodAll_cons_mk (reads W' _) trodAll_mk0, rfl, bel.frame _, fun h => by cases h⟩
theorem over : Rows.aluDoesRow.holds Try.pinned (OpenSpec.ofChange Rows.aluDoesSpec) :=
  OpenClaim.holds_of_wide 8 Try.f8 rfl rfl rfl rfl rfl rfl rfl ⟨rfl, rfl, rfl, rfl, rfl⟩ rfl rfl rfl rfl rfl (by kernel_rfl) Try.func8 (by kernel_rfl)
    (of_decide_eq_true (by kernel_rfl)) (by unfold Func.isWrapper; first | (rw [if_pos (by decide +kernel)]; kernel_rfl) | (rw [if_neg (by decide +kernel)]; exact ⟨rfl, rfl⟩))
    (fun os started H enc _ => lifted os started H enc)
theorem proved : Rows.AluDoesSaid := over
end Go.Proofs.Ytjegoojkjcjpnaa.aluDoes
namespace Go.Proofs.Ytjegoojkjcjpnaa
theorem aluDoes_holds : Rows.AluDoesSaid := aluDoes.proved
end Go.Proofs.Ytjegoojkjcjpnaa
