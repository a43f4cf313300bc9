-- PRINTED BY print.sh 35421559b90ae4d0a3588c463048766b98c2df88dd9212a6774a882060cdf62d: not written by this session
import Derived.Test.YtdoighcgfbnigaaDoorPFindx0
namespace Go.Proofs.YtdoighcgfbnigaaDoor.PFind
open Go.RowKit Go.Proofs.YtdoighcgfbnigaaDoorW.PrintWords Go.Proofs.YtdoighcgfbnigaaDoorW.PrintLast Go.Proofs.YtdoighcgfbnigaaDoorW.PrintMore
attribute [local go_sem] max2_int min2_int max_two min_two max_three min_three max_four min_four   -- for this text's walks alone
set_option linter.unusedVariables false
set_option linter.unusedSimpArgs false

/-! ### bulkheadref02_table: function 29 -/
def bulkheadref02_table.f  : Option ((List (S54))) := some (([(⟨(⟨#[110, 111, 112]⟩ : ByteArray), 1, 1⟩ : S54), (⟨(⟨#[109, 111, 118]⟩ : ByteArray), 3, 1⟩ : S54), (⟨(⟨#[108, 105]⟩ : ByteArray), 5, 1⟩ : S54), (⟨(⟨#[104, 105]⟩ : ByteArray), 5, 1⟩ : S54), (⟨(⟨#[97, 100, 100]⟩ : ByteArray), 4, 1⟩ : S54), (⟨(⟨#[115, 117, 98]⟩ : ByteArray), 4, 1⟩ : S54), (⟨(⟨#[109, 117, 108]⟩ : ByteArray), 4, 3⟩ : S54), (⟨(⟨#[100, 105, 118]⟩ : ByteArray), 4, 8⟩ : S54), (⟨(⟨#[114, 101, 109]⟩ : ByteArray), 4, 8⟩ : S54), (⟨(⟨#[97, 110, 100]⟩ : ByteArray), 4, 1⟩ : S54), (⟨(⟨#[111, 114]⟩ : ByteArray), 4, 1⟩ : S54), (⟨(⟨#[120, 111, 114]⟩ : ByteArray), 4, 1⟩ : S54), (⟨(⟨#[115, 104, 108]⟩ : ByteArray), 4, 1⟩ : S54), (⟨(⟨#[115, 104, 114]⟩ : ByteArray), 4, 1⟩ : S54), (⟨(⟨#[115, 97, 114]⟩ : ByteArray), 4, 1⟩ : S54), (⟨(⟨#[115, 108, 116]⟩ : ByteArray), 4, 1⟩ : S54), (⟨(⟨#[115, 108, 116, 117]⟩ : ByteArray), 4, 1⟩ : S54), (⟨(⟨#[97, 100, 100, 105]⟩ : ByteArray), 6, 1⟩ : S54), (⟨(⟨#[108, 100]⟩ : ByteArray), 6, 1⟩ : S54), (⟨(⟨#[115, 116]⟩ : ByteArray), 6, 1⟩ : S54), (⟨(⟨#[98, 101, 113]⟩ : ByteArray), 6, 1⟩ : S54), (⟨(⟨#[98, 110, 101]⟩ : ByteArray), 6, 1⟩ : S54), (⟨(⟨#[98, 108, 116]⟩ : ByteArray), 6, 1⟩ : S54), (⟨(⟨#[98, 103, 101]⟩ : ByteArray), 6, 1⟩ : S54), (⟨(⟨#[98, 108, 116, 117]⟩ : ByteArray), 6, 1⟩ : S54), (⟨(⟨#[106, 109, 112]⟩ : ByteArray), 7, 1⟩ : S54), (⟨(⟨#[106, 97, 108]⟩ : ByteArray), 5, 1⟩ : S54), (⟨(⟨#[106, 114]⟩ : ByteArray), 2, 1⟩ : S54), (⟨(⟨#[99, 121, 99]⟩ : ByteArray), 2, 1⟩ : S54), (⟨(⟨#[104, 121, 112]⟩ : ByteArray), 7, 24⟩ : S54)] : List (S54)))
set_option maxHeartbeats 8000000 in
set_option maxRecDepth 100000 in
theorem bulkheadref02_table.calls  (r : List (S54)) (w : World) (h : bulkheadref02_table.f  = some r) :
    Calls Tryd.prog 29 #[] w fun e w' => ∃ v0_ : Value, e = .returned (v0_) ∧ Kd.R k54 54 w' w.heap.size (fun _ => True) v0_ r ∧ Below w.heap.size w w' := by
  have hu54 := Tryd.underlying54
  have HB := Aside0.mk (Below.refl w.heap.size w)
  have H : (some (([(⟨(⟨#[110, 111, 112]⟩ : ByteArray), 1, 1⟩ : S54), (⟨(⟨#[109, 111, 118]⟩ : ByteArray), 3, 1⟩ : S54), (⟨(⟨#[108, 105]⟩ : ByteArray), 5, 1⟩ : S54), (⟨(⟨#[104, 105]⟩ : ByteArray), 5, 1⟩ : S54), (⟨(⟨#[97, 100, 100]⟩ : ByteArray), 4, 1⟩ : S54), (⟨(⟨#[115, 117, 98]⟩ : ByteArray), 4, 1⟩ : S54), (⟨(⟨#[109, 117, 108]⟩ : ByteArray), 4, 3⟩ : S54), (⟨(⟨#[100, 105, 118]⟩ : ByteArray), 4, 8⟩ : S54), (⟨(⟨#[114, 101, 109]⟩ : ByteArray), 4, 8⟩ : S54), (⟨(⟨#[97, 110, 100]⟩ : ByteArray), 4, 1⟩ : S54), (⟨(⟨#[111, 114]⟩ : ByteArray), 4, 1⟩ : S54), (⟨(⟨#[120, 111, 114]⟩ : ByteArray), 4, 1⟩ : S54), (⟨(⟨#[115, 104, 108]⟩ : ByteArray), 4, 1⟩ : S54), (⟨(⟨#[115, 104, 114]⟩ : ByteArray), 4, 1⟩ : S54), (⟨(⟨#[115, 97, 114]⟩ : ByteArray), 4, 1⟩ : S54), (⟨(⟨#[115, 108, 116]⟩ : ByteArray), 4, 1⟩ : S54), (⟨(⟨#[115, 108, 116, 117]⟩ : ByteArray), 4, 1⟩ : S54), (⟨(⟨#[97, 100, 100, 105]⟩ : ByteArray), 6, 1⟩ : S54), (⟨(⟨#[108, 100]⟩ : ByteArray), 6, 1⟩ : S54), (⟨(⟨#[115, 116]⟩ : ByteArray), 6, 1⟩ : S54), (⟨(⟨#[98, 101, 113]⟩ : ByteArray), 6, 1⟩ : S54), (⟨(⟨#[98, 110, 101]⟩ : ByteArray), 6, 1⟩ : S54), (⟨(⟨#[98, 108, 116]⟩ : ByteArray), 6, 1⟩ : S54), (⟨(⟨#[98, 103, 101]⟩ : ByteArray), 6, 1⟩ : S54), (⟨(⟨#[98, 108, 116, 117]⟩ : ByteArray), 6, 1⟩ : S54), (⟨(⟨#[106, 109, 112]⟩ : ByteArray), 7, 1⟩ : S54), (⟨(⟨#[106, 97, 108]⟩ : ByteArray), 5, 1⟩ : S54), (⟨(⟨#[106, 114]⟩ : ByteArray), 2, 1⟩ : S54), (⟨(⟨#[99, 121, 99]⟩ : ByteArray), 2, 1⟩ : S54), (⟨(⟨#[104, 121, 112]⟩ : ByteArray), 7, 24⟩ : S54)] : List (S54)))) = some r := h
  clear h
  obtain ⟨y101, hy101⟩ : ∃ y_ : List (S54), y_ = (([(⟨(⟨#[110, 111, 112]⟩ : ByteArray), 1, 1⟩ : S54), (⟨(⟨#[109, 111, 118]⟩ : ByteArray), 3, 1⟩ : S54), (⟨(⟨#[108, 105]⟩ : ByteArray), 5, 1⟩ : S54), (⟨(⟨#[104, 105]⟩ : ByteArray), 5, 1⟩ : S54), (⟨(⟨#[97, 100, 100]⟩ : ByteArray), 4, 1⟩ : S54), (⟨(⟨#[115, 117, 98]⟩ : ByteArray), 4, 1⟩ : S54), (⟨(⟨#[109, 117, 108]⟩ : ByteArray), 4, 3⟩ : S54), (⟨(⟨#[100, 105, 118]⟩ : ByteArray), 4, 8⟩ : S54), (⟨(⟨#[114, 101, 109]⟩ : ByteArray), 4, 8⟩ : S54), (⟨(⟨#[97, 110, 100]⟩ : ByteArray), 4, 1⟩ : S54), (⟨(⟨#[111, 114]⟩ : ByteArray), 4, 1⟩ : S54), (⟨(⟨#[120, 111, 114]⟩ : ByteArray), 4, 1⟩ : S54), (⟨(⟨#[115, 104, 108]⟩ : ByteArray), 4, 1⟩ : S54), (⟨(⟨#[115, 104, 114]⟩ : ByteArray), 4, 1⟩ : S54), (⟨(⟨#[115, 97, 114]⟩ : ByteArray), 4, 1⟩ : S54), (⟨(⟨#[115, 108, 116]⟩ : ByteArray), 4, 1⟩ : S54), (⟨(⟨#[115, 108, 116, 117]⟩ : ByteArray), 4, 1⟩ : S54), (⟨(⟨#[97, 100, 100, 105]⟩ : ByteArray), 6, 1⟩ : S54), (⟨(⟨#[108, 100]⟩ : ByteArray), 6, 1⟩ : S54), (⟨(⟨#[115, 116]⟩ : ByteArray), 6, 1⟩ : S54), (⟨(⟨#[98, 101, 113]⟩ : ByteArray), 6, 1⟩ : S54), (⟨(⟨#[98, 110, 101]⟩ : ByteArray), 6, 1⟩ : S54), (⟨(⟨#[98, 108, 116]⟩ : ByteArray), 6, 1⟩ : S54), (⟨(⟨#[98, 103, 101]⟩ : ByteArray), 6, 1⟩ : S54), (⟨(⟨#[98, 108, 116, 117]⟩ : ByteArray), 6, 1⟩ : S54), (⟨(⟨#[106, 109, 112]⟩ : ByteArray), 7, 1⟩ : S54), (⟨(⟨#[106, 97, 108]⟩ : ByteArray), 5, 1⟩ : S54), (⟨(⟨#[106, 114]⟩ : ByteArray), 2, 1⟩ : S54), (⟨(⟨#[99, 121, 99]⟩ : ByteArray), 2, 1⟩ : S54), (⟨(⟨#[104, 121, 112]⟩ : ByteArray), 7, 24⟩ : S54)] : List (S54))) := ⟨_, rfl⟩
  replace H : (some y101) = some r := by first | (rw [hy101]; with_reducible exact H) | (have H2_ := (Option.bind_some _ _).symm.trans H; rw [hy101]; with_reducible exact H2_) | (have H2_ := (Option.bind_some _ _).symm.trans H; with_reducible exact H2_) | with_reducible exact H | (rw [hy101]; exact H) | exact H
  have Ny101 := Aside0.mk hy101
  clear hy101
  obtain rfl := Option.some.inj H
  go_enter Tryd.func29, Tryd.ntmps29
  go_wp2_with (first | ((with_reducible refine gate_dst (N := 31) rfl ?_); refine Kd.R_lit k54 _ 54 ?hg (N := 31) ?hd (xs := ([(⟨(⟨#[110, 111, 112]⟩ : ByteArray), 1, 1⟩ : S54), (⟨(⟨#[109, 111, 118]⟩ : ByteArray), 3, 1⟩ : S54), (⟨(⟨#[108, 105]⟩ : ByteArray), 5, 1⟩ : S54), (⟨(⟨#[104, 105]⟩ : ByteArray), 5, 1⟩ : S54), (⟨(⟨#[97, 100, 100]⟩ : ByteArray), 4, 1⟩ : S54), (⟨(⟨#[115, 117, 98]⟩ : ByteArray), 4, 1⟩ : S54), (⟨(⟨#[109, 117, 108]⟩ : ByteArray), 4, 3⟩ : S54), (⟨(⟨#[100, 105, 118]⟩ : ByteArray), 4, 8⟩ : S54), (⟨(⟨#[114, 101, 109]⟩ : ByteArray), 4, 8⟩ : S54), (⟨(⟨#[97, 110, 100]⟩ : ByteArray), 4, 1⟩ : S54), (⟨(⟨#[111, 114]⟩ : ByteArray), 4, 1⟩ : S54), (⟨(⟨#[120, 111, 114]⟩ : ByteArray), 4, 1⟩ : S54), (⟨(⟨#[115, 104, 108]⟩ : ByteArray), 4, 1⟩ : S54), (⟨(⟨#[115, 104, 114]⟩ : ByteArray), 4, 1⟩ : S54), (⟨(⟨#[115, 97, 114]⟩ : ByteArray), 4, 1⟩ : S54), (⟨(⟨#[115, 108, 116]⟩ : ByteArray), 4, 1⟩ : S54), (⟨(⟨#[115, 108, 116, 117]⟩ : ByteArray), 4, 1⟩ : S54), (⟨(⟨#[97, 100, 100, 105]⟩ : ByteArray), 6, 1⟩ : S54), (⟨(⟨#[108, 100]⟩ : ByteArray), 6, 1⟩ : S54), (⟨(⟨#[115, 116]⟩ : ByteArray), 6, 1⟩ : S54), (⟨(⟨#[98, 101, 113]⟩ : ByteArray), 6, 1⟩ : S54), (⟨(⟨#[98, 110, 101]⟩ : ByteArray), 6, 1⟩ : S54), (⟨(⟨#[98, 108, 116]⟩ : ByteArray), 6, 1⟩ : S54), (⟨(⟨#[98, 103, 101]⟩ : ByteArray), 6, 1⟩ : S54), (⟨(⟨#[98, 108, 116, 117]⟩ : ByteArray), 6, 1⟩ : S54), (⟨(⟨#[106, 109, 112]⟩ : ByteArray), 7, 1⟩ : S54), (⟨(⟨#[106, 97, 108]⟩ : ByteArray), 5, 1⟩ : S54), (⟨(⟨#[106, 114]⟩ : ByteArray), 2, 1⟩ : S54), (⟨(⟨#[99, 121, 99]⟩ : ByteArray), 2, 1⟩ : S54), (⟨(⟨#[104, 121, 112]⟩ : ByteArray), 7, 24⟩ : S54)] : List (S54))) (inner := [.string (⟨#[110, 111, 112]⟩ : ByteArray), .int .i64 1, .int .i64 1, .string (⟨#[109, 111, 118]⟩ : ByteArray), .int .i64 3, .int .i64 1, .string (⟨#[108, 105]⟩ : ByteArray), .int .i64 5, .int .i64 1, .string (⟨#[104, 105]⟩ : ByteArray), .int .i64 5, .int .i64 1, .string (⟨#[97, 100, 100]⟩ : ByteArray), .int .i64 4, .int .i64 1, .string (⟨#[115, 117, 98]⟩ : ByteArray), .int .i64 4, .int .i64 1, .string (⟨#[109, 117, 108]⟩ : ByteArray), .int .i64 4, .int .i64 3, .string (⟨#[100, 105, 118]⟩ : ByteArray), .int .i64 4, .int .i64 8, .string (⟨#[114, 101, 109]⟩ : ByteArray), .int .i64 4, .int .i64 8, .string (⟨#[97, 110, 100]⟩ : ByteArray), .int .i64 4, .int .i64 1, .string (⟨#[111, 114]⟩ : ByteArray), .int .i64 4, .int .i64 1, .string (⟨#[120, 111, 114]⟩ : ByteArray), .int .i64 4, .int .i64 1, .string (⟨#[115, 104, 108]⟩ : ByteArray), .int .i64 4, .int .i64 1, .string (⟨#[115, 104, 114]⟩ : ByteArray), .int .i64 4, .int .i64 1, .string (⟨#[115, 97, 114]⟩ : ByteArray), .int .i64 4, .int .i64 1, .string (⟨#[115, 108, 116]⟩ : ByteArray), .int .i64 4, .int .i64 1, .string (⟨#[115, 108, 116, 117]⟩ : ByteArray), .int .i64 4, .int .i64 1, .string (⟨#[97, 100, 100, 105]⟩ : ByteArray), .int .i64 6, .int .i64 1, .string (⟨#[108, 100]⟩ : ByteArray), .int .i64 6, .int .i64 1, .string (⟨#[115, 116]⟩ : ByteArray), .int .i64 6, .int .i64 1, .string (⟨#[98, 101, 113]⟩ : ByteArray), .int .i64 6, .int .i64 1, .string (⟨#[98, 110, 101]⟩ : ByteArray), .int .i64 6, .int .i64 1, .string (⟨#[98, 108, 116]⟩ : ByteArray), .int .i64 6, .int .i64 1, .string (⟨#[98, 103, 101]⟩ : ByteArray), .int .i64 6, .int .i64 1, .string (⟨#[98, 108, 116, 117]⟩ : ByteArray), .int .i64 6, .int .i64 1, .string (⟨#[106, 109, 112]⟩ : ByteArray), .int .i64 7, .int .i64 1, .string (⟨#[106, 97, 108]⟩ : ByteArray), .int .i64 5, .int .i64 1, .string (⟨#[106, 114]⟩ : ByteArray), .int .i64 2, .int .i64 1, .string (⟨#[99, 121, 99]⟩ : ByteArray), .int .i64 2, .int .i64 1, .string (⟨#[104, 121, 112]⟩ : ByteArray), .int .i64 7, .int .i64 24]) (ok := fun _ => True) (okp := fun _ => True) ?hr ?hp (fun _ hk => hk) trivial (Below.refl _ _) (Nat.le_refl _) (by simp) ?_; (case hd => rfl); (case hg => rfl); (case hr => first | (go_simp; done) | (go_simp; rfl)); (case hp => exact (Reps.c3 (show Kd.M k54 _ _ _ (⟨(⟨#[110, 111, 112]⟩ : ByteArray), 1, 1⟩ : S54) [.string (⟨#[110, 111, 112]⟩ : ByteArray), .int .i64 1, .int .i64 1] from (k54_mkM _ _ _ (⟨(⟨#[110, 111, 112]⟩ : ByteArray), 1, 1⟩ : S54) )) (Reps.c3 (show Kd.M k54 _ _ _ (⟨(⟨#[109, 111, 118]⟩ : ByteArray), 3, 1⟩ : S54) [.string (⟨#[109, 111, 118]⟩ : ByteArray), .int .i64 3, .int .i64 1] from (k54_mkM _ _ _ (⟨(⟨#[109, 111, 118]⟩ : ByteArray), 3, 1⟩ : S54) )) (Reps.c3 (show Kd.M k54 _ _ _ (⟨(⟨#[108, 105]⟩ : ByteArray), 5, 1⟩ : S54) [.string (⟨#[108, 105]⟩ : ByteArray), .int .i64 5, .int .i64 1] from (k54_mkM _ _ _ (⟨(⟨#[108, 105]⟩ : ByteArray), 5, 1⟩ : S54) )) (Reps.c3 (show Kd.M k54 _ _ _ (⟨(⟨#[104, 105]⟩ : ByteArray), 5, 1⟩ : S54) [.string (⟨#[104, 105]⟩ : ByteArray), .int .i64 5, .int .i64 1] from (k54_mkM _ _ _ (⟨(⟨#[104, 105]⟩ : ByteArray), 5, 1⟩ : S54) )) (Reps.c3 (show Kd.M k54 _ _ _ (⟨(⟨#[97, 100, 100]⟩ : ByteArray), 4, 1⟩ : S54) [.string (⟨#[97, 100, 100]⟩ : ByteArray), .int .i64 4, .int .i64 1] from (k54_mkM _ _ _ (⟨(⟨#[97, 100, 100]⟩ : ByteArray), 4, 1⟩ : S54) )) (Reps.c3 (show Kd.M k54 _ _ _ (⟨(⟨#[115, 117, 98]⟩ : ByteArray), 4, 1⟩ : S54) [.string (⟨#[115, 117, 98]⟩ : ByteArray), .int .i64 4, .int .i64 1] from (k54_mkM _ _ _ (⟨(⟨#[115, 117, 98]⟩ : ByteArray), 4, 1⟩ : S54) )) (Reps.c3 (show Kd.M k54 _ _ _ (⟨(⟨#[109, 117, 108]⟩ : ByteArray), 4, 3⟩ : S54) [.string (⟨#[109, 117, 108]⟩ : ByteArray), .int .i64 4, .int .i64 3] from (k54_mkM _ _ _ (⟨(⟨#[109, 117, 108]⟩ : ByteArray), 4, 3⟩ : S54) )) (Reps.c3 (show Kd.M k54 _ _ _ (⟨(⟨#[100, 105, 118]⟩ : ByteArray), 4, 8⟩ : S54) [.string (⟨#[100, 105, 118]⟩ : ByteArray), .int .i64 4, .int .i64 8] from (k54_mkM _ _ _ (⟨(⟨#[100, 105, 118]⟩ : ByteArray), 4, 8⟩ : S54) )) (Reps.c3 (show Kd.M k54 _ _ _ (⟨(⟨#[114, 101, 109]⟩ : ByteArray), 4, 8⟩ : S54) [.string (⟨#[114, 101, 109]⟩ : ByteArray), .int .i64 4, .int .i64 8] from (k54_mkM _ _ _ (⟨(⟨#[114, 101, 109]⟩ : ByteArray), 4, 8⟩ : S54) )) (Reps.c3 (show Kd.M k54 _ _ _ (⟨(⟨#[97, 110, 100]⟩ : ByteArray), 4, 1⟩ : S54) [.string (⟨#[97, 110, 100]⟩ : ByteArray), .int .i64 4, .int .i64 1] from (k54_mkM _ _ _ (⟨(⟨#[97, 110, 100]⟩ : ByteArray), 4, 1⟩ : S54) )) (Reps.c3 (show Kd.M k54 _ _ _ (⟨(⟨#[111, 114]⟩ : ByteArray), 4, 1⟩ : S54) [.string (⟨#[111, 114]⟩ : ByteArray), .int .i64 4, .int .i64 1] from (k54_mkM _ _ _ (⟨(⟨#[111, 114]⟩ : ByteArray), 4, 1⟩ : S54) )) (Reps.c3 (show Kd.M k54 _ _ _ (⟨(⟨#[120, 111, 114]⟩ : ByteArray), 4, 1⟩ : S54) [.string (⟨#[120, 111, 114]⟩ : ByteArray), .int .i64 4, .int .i64 1] from (k54_mkM _ _ _ (⟨(⟨#[120, 111, 114]⟩ : ByteArray), 4, 1⟩ : S54) )) (Reps.c3 (show Kd.M k54 _ _ _ (⟨(⟨#[115, 104, 108]⟩ : ByteArray), 4, 1⟩ : S54) [.string (⟨#[115, 104, 108]⟩ : ByteArray), .int .i64 4, .int .i64 1] from (k54_mkM _ _ _ (⟨(⟨#[115, 104, 108]⟩ : ByteArray), 4, 1⟩ : S54) )) (Reps.c3 (show Kd.M k54 _ _ _ (⟨(⟨#[115, 104, 114]⟩ : ByteArray), 4, 1⟩ : S54) [.string (⟨#[115, 104, 114]⟩ : ByteArray), .int .i64 4, .int .i64 1] from (k54_mkM _ _ _ (⟨(⟨#[115, 104, 114]⟩ : ByteArray), 4, 1⟩ : S54) )) (Reps.c3 (show Kd.M k54 _ _ _ (⟨(⟨#[115, 97, 114]⟩ : ByteArray), 4, 1⟩ : S54) [.string (⟨#[115, 97, 114]⟩ : ByteArray), .int .i64 4, .int .i64 1] from (k54_mkM _ _ _ (⟨(⟨#[115, 97, 114]⟩ : ByteArray), 4, 1⟩ : S54) )) (Reps.c3 (show Kd.M k54 _ _ _ (⟨(⟨#[115, 108, 116]⟩ : ByteArray), 4, 1⟩ : S54) [.string (⟨#[115, 108, 116]⟩ : ByteArray), .int .i64 4, .int .i64 1] from (k54_mkM _ _ _ (⟨(⟨#[115, 108, 116]⟩ : ByteArray), 4, 1⟩ : S54) )) (Reps.c3 (show Kd.M k54 _ _ _ (⟨(⟨#[115, 108, 116, 117]⟩ : ByteArray), 4, 1⟩ : S54) [.string (⟨#[115, 108, 116, 117]⟩ : ByteArray), .int .i64 4, .int .i64 1] from (k54_mkM _ _ _ (⟨(⟨#[115, 108, 116, 117]⟩ : ByteArray), 4, 1⟩ : S54) )) (Reps.c3 (show Kd.M k54 _ _ _ (⟨(⟨#[97, 100, 100, 105]⟩ : ByteArray), 6, 1⟩ : S54) [.string (⟨#[97, 100, 100, 105]⟩ : ByteArray), .int .i64 6, .int .i64 1] from (k54_mkM _ _ _ (⟨(⟨#[97, 100, 100, 105]⟩ : ByteArray), 6, 1⟩ : S54) )) (Reps.c3 (show Kd.M k54 _ _ _ (⟨(⟨#[108, 100]⟩ : ByteArray), 6, 1⟩ : S54) [.string (⟨#[108, 100]⟩ : ByteArray), .int .i64 6, .int .i64 1] from (k54_mkM _ _ _ (⟨(⟨#[108, 100]⟩ : ByteArray), 6, 1⟩ : S54) )) (Reps.c3 (show Kd.M k54 _ _ _ (⟨(⟨#[115, 116]⟩ : ByteArray), 6, 1⟩ : S54) [.string (⟨#[115, 116]⟩ : ByteArray), .int .i64 6, .int .i64 1] from (k54_mkM _ _ _ (⟨(⟨#[115, 116]⟩ : ByteArray), 6, 1⟩ : S54) )) (Reps.c3 (show Kd.M k54 _ _ _ (⟨(⟨#[98, 101, 113]⟩ : ByteArray), 6, 1⟩ : S54) [.string (⟨#[98, 101, 113]⟩ : ByteArray), .int .i64 6, .int .i64 1] from (k54_mkM _ _ _ (⟨(⟨#[98, 101, 113]⟩ : ByteArray), 6, 1⟩ : S54) )) (Reps.c3 (show Kd.M k54 _ _ _ (⟨(⟨#[98, 110, 101]⟩ : ByteArray), 6, 1⟩ : S54) [.string (⟨#[98, 110, 101]⟩ : ByteArray), .int .i64 6, .int .i64 1] from (k54_mkM _ _ _ (⟨(⟨#[98, 110, 101]⟩ : ByteArray), 6, 1⟩ : S54) )) (Reps.c3 (show Kd.M k54 _ _ _ (⟨(⟨#[98, 108, 116]⟩ : ByteArray), 6, 1⟩ : S54) [.string (⟨#[98, 108, 116]⟩ : ByteArray), .int .i64 6, .int .i64 1] from (k54_mkM _ _ _ (⟨(⟨#[98, 108, 116]⟩ : ByteArray), 6, 1⟩ : S54) )) (Reps.c3 (show Kd.M k54 _ _ _ (⟨(⟨#[98, 103, 101]⟩ : ByteArray), 6, 1⟩ : S54) [.string (⟨#[98, 103, 101]⟩ : ByteArray), .int .i64 6, .int .i64 1] from (k54_mkM _ _ _ (⟨(⟨#[98, 103, 101]⟩ : ByteArray), 6, 1⟩ : S54) )) (Reps.c3 (show Kd.M k54 _ _ _ (⟨(⟨#[98, 108, 116, 117]⟩ : ByteArray), 6, 1⟩ : S54) [.string (⟨#[98, 108, 116, 117]⟩ : ByteArray), .int .i64 6, .int .i64 1] from (k54_mkM _ _ _ (⟨(⟨#[98, 108, 116, 117]⟩ : ByteArray), 6, 1⟩ : S54) )) (Reps.c3 (show Kd.M k54 _ _ _ (⟨(⟨#[106, 109, 112]⟩ : ByteArray), 7, 1⟩ : S54) [.string (⟨#[106, 109, 112]⟩ : ByteArray), .int .i64 7, .int .i64 1] from (k54_mkM _ _ _ (⟨(⟨#[106, 109, 112]⟩ : ByteArray), 7, 1⟩ : S54) )) (Reps.c3 (show Kd.M k54 _ _ _ (⟨(⟨#[106, 97, 108]⟩ : ByteArray), 5, 1⟩ : S54) [.string (⟨#[106, 97, 108]⟩ : ByteArray), .int .i64 5, .int .i64 1] from (k54_mkM _ _ _ (⟨(⟨#[106, 97, 108]⟩ : ByteArray), 5, 1⟩ : S54) )) (Reps.c3 (show Kd.M k54 _ _ _ (⟨(⟨#[106, 114]⟩ : ByteArray), 2, 1⟩ : S54) [.string (⟨#[106, 114]⟩ : ByteArray), .int .i64 2, .int .i64 1] from (k54_mkM _ _ _ (⟨(⟨#[106, 114]⟩ : ByteArray), 2, 1⟩ : S54) )) (Reps.c3 (show Kd.M k54 _ _ _ (⟨(⟨#[99, 121, 99]⟩ : ByteArray), 2, 1⟩ : S54) [.string (⟨#[99, 121, 99]⟩ : ByteArray), .int .i64 2, .int .i64 1] from (k54_mkM _ _ _ (⟨(⟨#[99, 121, 99]⟩ : ByteArray), 2, 1⟩ : S54) )) (Reps.c3 (show Kd.M k54 _ _ _ (⟨(⟨#[104, 121, 112]⟩ : ByteArray), 7, 24⟩ : S54) [.string (⟨#[104, 121, 112]⟩ : ByteArray), .int .i64 7, .int .i64 24] from (k54_mkM _ _ _ (⟨(⟨#[104, 121, 112]⟩ : ByteArray), 7, 24⟩ : S54) )) (Reps.none _ _)))))))))))))))))))))))))))))))); intro v102 w1 ho2 hb hg_ hnew_; clear hg_ hnew_; (first | rw [← Ny101.out] at ho2 | (simp only [Int.reduceToNat] at ho2; rw [← Ny101.out] at ho2)); have n0_ := Aside0.mk (Kd.R_lower ho2 (below_size (by repeat (first | (with_reducible first | exact HB.out | apply below_alloc | apply pw_below_drewN | apply below_drew1) | exact HB.out)))); have n1_ := Aside0.mk (below_step (by repeat (first | (with_reducible first | exact HB.out | apply below_alloc | apply pw_below_drewN | apply below_drew1) | exact HB.out)) hb); clear HB; have HO103 := n0_; have HB := n1_; clear n0_ n1_; clear hb ho2))
  go_ret
  exact ⟨_, by first | rfl | (simp [errW_none, errW_some] <;> rfl) | (simp [*, errW_none, errW_some] <;> rfl), by (with_reducible repeat (first | apply Kd.R_alloc | apply Kd.R_drewN | apply Kd.R_drew)); exact HO103.out, by repeat (first | (with_reducible first | exact HB.out | apply below_alloc | apply pw_below_drewN | apply below_drew1) | exact HB.out)⟩

/-! ### bulkheadref02_Find: function 18 -/
def bulkheadref02_Find.l0 : Nat → ByteArray → List (S54) → Int → Option (Int × Bool)
  | 0, _, _, _ => none
  | k + 1, x0, x4, x5 => if x5 < (x4.length : Int) then (if 0 ≤ x5 then (if ((rd_T54 x4 x5).f0).toList = x0.toList then (some (wrap64 (x5 + 1), true)) else (bulkheadref02_Find.l0 k x0 x4 (wrap64 (x5 + 1)))) else (none)) else (some (0, false))
def bulkheadref02_Find.f (k : Nat) (a0 : ByteArray) : Option (Int × Bool) := (bulkheadref02_table.f).bind fun t104 => (bulkheadref02_Find.l0 k a0 t104 0)
theorem bulkheadref02_Find.mono_l : ∀ k, (∀ y0 y1 y2, LeO (bulkheadref02_Find.l0 k y0 y1 y2) (bulkheadref02_Find.l0 (k + 1) y0 y1 y2))
  | 0 => fun _ _ _ r h => by simp [bulkheadref02_Find.l0] at h
  | k + 1 => by
    have ih0 := bulkheadref02_Find.mono_l k
    · intro y0 y1 y2
      unfold bulkheadref02_Find.l0
      repeat' first
      | (with_reducible exact ih0 _ _ _)
      | (with_reducible exact LeO.refl _)
      | (with_reducible exact LeO.none _)
      | (with_reducible refine LeO.ite ?_ ?_)
      | (with_reducible refine LeO.bind ?_ (fun _ => ?_))
      | exact ih0 _ _ _
      | exact LeO.none _
      | refine LeO.ite ?_ ?_
      | refine LeO.bind ?_ (fun _ => ?_)
theorem bulkheadref02_Find.mono : ∀ a0 k, LeO (bulkheadref02_Find.f k a0) (bulkheadref02_Find.f (k + 1) a0) := by
  intro a0 k
  have ih0 := bulkheadref02_Find.mono_l k
  unfold bulkheadref02_Find.f
  repeat' first
      | (with_reducible exact ih0 _ _ _)
      | (with_reducible exact LeO.refl _)
      | (with_reducible exact LeO.none _)
      | (with_reducible refine LeO.ite ?_ ?_)
      | (with_reducible refine LeO.bind ?_ (fun _ => ?_))
      | exact ih0 _ _ _
      | exact LeO.none _
      | refine LeO.ite ?_ ?_
      | refine LeO.bind ?_ (fun _ => ?_)
set_option maxHeartbeats 8000000 in
set_option maxRecDepth 100000 in
theorem bulkheadref02_Find.calls (k : Nat) (a0 : ByteArray) (r1 : Int) (r2 : Bool) (w : World) (h : bulkheadref02_Find.f k a0 = some (r1, r2)) :
    Calls Tryd.prog 18 #[.string a0] w fun e w' => e = .returned (.tuple #[.int .i64 r1, .bool r2]) ∧ Below w.heap.size w w' := by
  have HB := Aside0.mk (Below.refl w.heap.size w)
  have H : ((bulkheadref02_table.f).bind fun t104 => (bulkheadref02_Find.l0 k a0 t104 0)) = some (r1, r2) := h
  clear h
  replace H := Option.bind_eq_some_iff.mp H
  obtain ⟨t104, A20, H⟩ := H
  replace H : (bulkheadref02_Find.l0 k a0 t104 0) = some (r1, r2) := H
  have A2 := Aside0.mk A20
  clear A20
  have H' := Aside0.mk H
  clear H
  go_enter Tryd.func18, Tryd.ntmps18
  go_wp2_with (first | ((with_reducible refine gate_callee (f := 29) rfl ?_); refine goesL_ (some 6) rfl rfl Tryd.func29 (by kernel_rfl) rfl #[] rfl (by (try simp only [List.map_toArray, List.map_cons, List.map_nil]); first | done | rfl | (simp only [List.length_drop, List.length_take]; rfl)) ?_; (with_reducible refine (bulkheadref02_table.calls  t104 _ A2.out).mono ?_); rintro e w3 ⟨v105, rfl, ho0, hb⟩; refine ⟨_, rfl, ?_⟩; have n0_ := Aside0.mk (Kd.R_lower ho0 (below_size (by repeat (first | (with_reducible first | exact HB.out | apply below_alloc | apply pw_below_drewN | apply below_drew1) | exact HB.out)))); have n1_ := Aside0.mk (below_step (by repeat (first | (with_reducible first | exact HB.out | apply below_alloc | apply pw_below_drewN | apply below_drew1) | exact HB.out)) hb); clear HB; have HO106 := n0_; have HB := n1_; clear n0_ n1_; (try clear hb); (try clear hb2); (try clear hk); (try clear hi); (try clear ho0)))
  go_loopg [5] k (fun kq v5 w' => ∃ (x5_1 : Int), v5 = .int .i64 x5_1 ∧ Aside0 (bulkheadref02_Find.l0 kq a0 t104 x5_1 = some (r1, r2)) ∧ Aside0 (kq ≤ k) ∧ Aside0 (Kd.R k54 54 w' w.heap.size (fun _ => True) v105 t104) ∧ Aside0 (Below w.heap.size w w'))
  case atStart => exact ⟨(0), (by first | rfl | (simp; done) | (simp [*]; done)), H', ⟨Nat.le_refl _⟩, ⟨by (with_reducible repeat (first | apply Kd.R_alloc | apply Kd.R_drewN | apply Kd.R_drew)); exact HO106.out⟩, ⟨by repeat (first | (with_reducible first | exact HB.out | apply below_alloc | apply pw_below_drewN | apply below_drew1) | exact HB.out)⟩⟩
  case round =>
    clear H'
    try clear c1
    try clear c2
    try clear p2
    obtain ⟨x5_1, rfl, HA, HK1, HO_4, HB⟩ := hrel
    cases gk with
    | zero => exact absurd HA.out (by simp [bulkheadref02_Find.l0])
    | succ k1 =>
      have H := HA.out
      clear HA
      simp only [bulkheadref02_Find.l0] at H
      by_cases c4 : x5_1 < (t104.length : Int)
      · rw [if_pos c4] at H
        have c4b0 : decide (x5_1 < (t104.length : Int)) = true := decide_eq_true c4
        clear c4
        by_cases c5 : 0 ≤ x5_1
        · rw [if_pos c5] at H
          have c5b0 : decide (0 ≤ x5_1) = true := decide_eq_true c5
          clear c5
          by_cases c6 : ((rd_T54 t104 x5_1).f0).toList = a0.toList
          · rw [if_pos c6] at H
            have c6b0 : (((rd_T54 t104 x5_1).f0).toList == a0.toList) = true := beq_iff_eq.mpr c6
            have c6b1 : (((rd_T54 t104 x5_1).f0).toList != a0.toList) = false := bne_eq_false_iff_eq.mpr c6
            clear c6
            simp only [Option.some.injEq, Prod.mk.injEq] at H
            obtain ⟨rfl, rfl⟩ := H
            obtain ⟨Ao7, co7, eo7⟩ := Kd.R_slice HO_4.out
            subst eo7
            have p107 : 0 ≤ (x5_1 : Int) := of_decide_eq_true (by first | (with_reducible assumption) | assumption)
            have q107 : x5_1 < (t104.length : Int) := of_decide_eq_true (by first | (with_reducible assumption) | assumption)
            obtain ⟨ad107, e107, hx107_0, hx107_1, hx107_2⟩ := at_T54 (Kd.R_reads' HO_4.out).2.2 x5_1 p107 q107
            cases e107
            replace p107 := eq_true p107
            replace q107 := eq_true q107
            go_wp2
            go_ret2
            exact ⟨by first | rfl | (simp [errW_none, errW_some] <;> rfl) | (simp [*, errW_none, errW_some] <;> rfl), by repeat (first | (with_reducible first | exact HB.out | apply below_alloc | apply pw_below_drewN | apply below_drew1) | exact HB.out)⟩
          · rw [if_neg c6] at H
            have c6b0 : (((rd_T54 t104 x5_1).f0).toList == a0.toList) = false := beq_eq_false_iff_ne.mpr c6
            have c6b1 : (((rd_T54 t104 x5_1).f0).toList != a0.toList) = true := bne_iff_ne.mpr c6
            have H' := Aside0.mk H
            clear H
            obtain ⟨Ao8, co8, eo8⟩ := Kd.R_slice HO_4.out
            subst eo8
            have p107 : 0 ≤ (x5_1 : Int) := of_decide_eq_true (by first | (with_reducible assumption) | assumption)
            have q107 : x5_1 < (t104.length : Int) := of_decide_eq_true (by first | (with_reducible assumption) | assumption)
            obtain ⟨ad107, e107, hx107_0, hx107_1, hx107_2⟩ := at_T54 (Kd.R_reads' HO_4.out).2.2 x5_1 p107 q107
            cases e107
            replace p107 := eq_true p107
            replace q107 := eq_true q107
            go_wp2
            go_roundg k1
            case measure => have := HK1.out; omega
            case rel => exact ⟨(wrap64 (x5_1 + 1)), (by first | rfl | (simp; done) | (simp [*]; done)), H', ⟨by have := HK1.out; omega⟩, ⟨by (with_reducible repeat (first | apply Kd.R_alloc | apply Kd.R_drewN | apply Kd.R_drew)); exact HO_4.out⟩, ⟨by repeat (first | (with_reducible first | exact HB.out | apply below_alloc | apply pw_below_drewN | apply below_drew1) | exact HB.out)⟩⟩
        · rw [if_neg c5] at H
          exact absurd H (by simp)
      · rw [if_neg c4] at H
        have c4b0 : decide (x5_1 < (t104.length : Int)) = false := decide_eq_false c4
        clear c4
        simp only [Option.some.injEq, Prod.mk.injEq] at H
        obtain ⟨rfl, rfl⟩ := H
        obtain ⟨Ao9, co9, eo9⟩ := Kd.R_slice HO_4.out
        subst eo9
        go_wp2
        go_ret2
        exact ⟨by first | rfl | (simp [errW_none, errW_some] <;> rfl) | (simp [*, errW_none, errW_some] <;> rfl), by repeat (first | (with_reducible first | exact HB.out | apply below_alloc | apply pw_below_drewN | apply below_drew1) | exact HB.out)⟩

end Go.Proofs.YtdoighcgfbnigaaDoor.PFind
