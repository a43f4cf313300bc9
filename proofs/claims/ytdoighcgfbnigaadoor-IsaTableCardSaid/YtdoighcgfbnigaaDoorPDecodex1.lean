-- PRINTED BY print.sh 35421559b90ae4d0a3588c463048766b98c2df88dd9212a6774a882060cdf62d: not written by this session
import Derived.Test.YtdoighcgfbnigaaDoorPDecodex0
namespace Go.Proofs.YtdoighcgfbnigaaDoor.PDecode
open Go.RowKit Go.Proofs.YtdoighcgfbnigaaDoorW.PrintWords Go.Proofs.YtdoighcgfbnigaaDoorW.PrintLast Go.Proofs.YtdoighcgfbnigaaDoorW.PrintMore
attribute [local go_sem] max2_int min2_int max_two min_two max_three min_three max_four min_four   -- for this text's walks alone
set_option linter.unusedVariables false
set_option linter.unusedSimpArgs false

/-! ### bulkheadref02_table: function 29 -/
def bulkheadref02_table.f  : Option ((List (S54))) := some (([(⟨(⟨#[110, 111, 112]⟩ : ByteArray), 1, 1⟩ : S54), (⟨(⟨#[109, 111, 118]⟩ : ByteArray), 3, 1⟩ : S54), (⟨(⟨#[108, 105]⟩ : ByteArray), 5, 1⟩ : S54), (⟨(⟨#[104, 105]⟩ : ByteArray), 5, 1⟩ : S54), (⟨(⟨#[97, 100, 100]⟩ : ByteArray), 4, 1⟩ : S54), (⟨(⟨#[115, 117, 98]⟩ : ByteArray), 4, 1⟩ : S54), (⟨(⟨#[109, 117, 108]⟩ : ByteArray), 4, 3⟩ : S54), (⟨(⟨#[100, 105, 118]⟩ : ByteArray), 4, 8⟩ : S54), (⟨(⟨#[114, 101, 109]⟩ : ByteArray), 4, 8⟩ : S54), (⟨(⟨#[97, 110, 100]⟩ : ByteArray), 4, 1⟩ : S54), (⟨(⟨#[111, 114]⟩ : ByteArray), 4, 1⟩ : S54), (⟨(⟨#[120, 111, 114]⟩ : ByteArray), 4, 1⟩ : S54), (⟨(⟨#[115, 104, 108]⟩ : ByteArray), 4, 1⟩ : S54), (⟨(⟨#[115, 104, 114]⟩ : ByteArray), 4, 1⟩ : S54), (⟨(⟨#[115, 97, 114]⟩ : ByteArray), 4, 1⟩ : S54), (⟨(⟨#[115, 108, 116]⟩ : ByteArray), 4, 1⟩ : S54), (⟨(⟨#[115, 108, 116, 117]⟩ : ByteArray), 4, 1⟩ : S54), (⟨(⟨#[97, 100, 100, 105]⟩ : ByteArray), 6, 1⟩ : S54), (⟨(⟨#[108, 100]⟩ : ByteArray), 6, 1⟩ : S54), (⟨(⟨#[115, 116]⟩ : ByteArray), 6, 1⟩ : S54), (⟨(⟨#[98, 101, 113]⟩ : ByteArray), 6, 1⟩ : S54), (⟨(⟨#[98, 110, 101]⟩ : ByteArray), 6, 1⟩ : S54), (⟨(⟨#[98, 108, 116]⟩ : ByteArray), 6, 1⟩ : S54), (⟨(⟨#[98, 103, 101]⟩ : ByteArray), 6, 1⟩ : S54), (⟨(⟨#[98, 108, 116, 117]⟩ : ByteArray), 6, 1⟩ : S54), (⟨(⟨#[106, 109, 112]⟩ : ByteArray), 7, 1⟩ : S54), (⟨(⟨#[106, 97, 108]⟩ : ByteArray), 5, 1⟩ : S54), (⟨(⟨#[106, 114]⟩ : ByteArray), 2, 1⟩ : S54), (⟨(⟨#[99, 121, 99]⟩ : ByteArray), 2, 1⟩ : S54), (⟨(⟨#[104, 121, 112]⟩ : ByteArray), 7, 24⟩ : S54)] : List (S54)))
set_option maxHeartbeats 8000000 in
set_option maxRecDepth 100000 in
theorem bulkheadref02_table.calls  (r : List (S54)) (w : World) (h : bulkheadref02_table.f  = some r) :
    Calls Tryd.prog 29 #[] w fun e w' => ∃ v0_ : Value, e = .returned (v0_) ∧ Kd.R k54 54 w' w.heap.size (fun _ => True) v0_ r ∧ Below w.heap.size w w' := by
  have hu54 := Tryd.underlying54
  have HB := Aside0.mk (Below.refl w.heap.size w)
  have H : (some (([(⟨(⟨#[110, 111, 112]⟩ : ByteArray), 1, 1⟩ : S54), (⟨(⟨#[109, 111, 118]⟩ : ByteArray), 3, 1⟩ : S54), (⟨(⟨#[108, 105]⟩ : ByteArray), 5, 1⟩ : S54), (⟨(⟨#[104, 105]⟩ : ByteArray), 5, 1⟩ : S54), (⟨(⟨#[97, 100, 100]⟩ : ByteArray), 4, 1⟩ : S54), (⟨(⟨#[115, 117, 98]⟩ : ByteArray), 4, 1⟩ : S54), (⟨(⟨#[109, 117, 108]⟩ : ByteArray), 4, 3⟩ : S54), (⟨(⟨#[100, 105, 118]⟩ : ByteArray), 4, 8⟩ : S54), (⟨(⟨#[114, 101, 109]⟩ : ByteArray), 4, 8⟩ : S54), (⟨(⟨#[97, 110, 100]⟩ : ByteArray), 4, 1⟩ : S54), (⟨(⟨#[111, 114]⟩ : ByteArray), 4, 1⟩ : S54), (⟨(⟨#[120, 111, 114]⟩ : ByteArray), 4, 1⟩ : S54), (⟨(⟨#[115, 104, 108]⟩ : ByteArray), 4, 1⟩ : S54), (⟨(⟨#[115, 104, 114]⟩ : ByteArray), 4, 1⟩ : S54), (⟨(⟨#[115, 97, 114]⟩ : ByteArray), 4, 1⟩ : S54), (⟨(⟨#[115, 108, 116]⟩ : ByteArray), 4, 1⟩ : S54), (⟨(⟨#[115, 108, 116, 117]⟩ : ByteArray), 4, 1⟩ : S54), (⟨(⟨#[97, 100, 100, 105]⟩ : ByteArray), 6, 1⟩ : S54), (⟨(⟨#[108, 100]⟩ : ByteArray), 6, 1⟩ : S54), (⟨(⟨#[115, 116]⟩ : ByteArray), 6, 1⟩ : S54), (⟨(⟨#[98, 101, 113]⟩ : ByteArray), 6, 1⟩ : S54), (⟨(⟨#[98, 110, 101]⟩ : ByteArray), 6, 1⟩ : S54), (⟨(⟨#[98, 108, 116]⟩ : ByteArray), 6, 1⟩ : S54), (⟨(⟨#[98, 103, 101]⟩ : ByteArray), 6, 1⟩ : S54), (⟨(⟨#[98, 108, 116, 117]⟩ : ByteArray), 6, 1⟩ : S54), (⟨(⟨#[106, 109, 112]⟩ : ByteArray), 7, 1⟩ : S54), (⟨(⟨#[106, 97, 108]⟩ : ByteArray), 5, 1⟩ : S54), (⟨(⟨#[106, 114]⟩ : ByteArray), 2, 1⟩ : S54), (⟨(⟨#[99, 121, 99]⟩ : ByteArray), 2, 1⟩ : S54), (⟨(⟨#[104, 121, 112]⟩ : ByteArray), 7, 24⟩ : S54)] : List (S54)))) = some r := h
  clear h
  obtain ⟨y101, hy101⟩ : ∃ y_ : List (S54), y_ = (([(⟨(⟨#[110, 111, 112]⟩ : ByteArray), 1, 1⟩ : S54), (⟨(⟨#[109, 111, 118]⟩ : ByteArray), 3, 1⟩ : S54), (⟨(⟨#[108, 105]⟩ : ByteArray), 5, 1⟩ : S54), (⟨(⟨#[104, 105]⟩ : ByteArray), 5, 1⟩ : S54), (⟨(⟨#[97, 100, 100]⟩ : ByteArray), 4, 1⟩ : S54), (⟨(⟨#[115, 117, 98]⟩ : ByteArray), 4, 1⟩ : S54), (⟨(⟨#[109, 117, 108]⟩ : ByteArray), 4, 3⟩ : S54), (⟨(⟨#[100, 105, 118]⟩ : ByteArray), 4, 8⟩ : S54), (⟨(⟨#[114, 101, 109]⟩ : ByteArray), 4, 8⟩ : S54), (⟨(⟨#[97, 110, 100]⟩ : ByteArray), 4, 1⟩ : S54), (⟨(⟨#[111, 114]⟩ : ByteArray), 4, 1⟩ : S54), (⟨(⟨#[120, 111, 114]⟩ : ByteArray), 4, 1⟩ : S54), (⟨(⟨#[115, 104, 108]⟩ : ByteArray), 4, 1⟩ : S54), (⟨(⟨#[115, 104, 114]⟩ : ByteArray), 4, 1⟩ : S54), (⟨(⟨#[115, 97, 114]⟩ : ByteArray), 4, 1⟩ : S54), (⟨(⟨#[115, 108, 116]⟩ : ByteArray), 4, 1⟩ : S54), (⟨(⟨#[115, 108, 116, 117]⟩ : ByteArray), 4, 1⟩ : S54), (⟨(⟨#[97, 100, 100, 105]⟩ : ByteArray), 6, 1⟩ : S54), (⟨(⟨#[108, 100]⟩ : ByteArray), 6, 1⟩ : S54), (⟨(⟨#[115, 116]⟩ : ByteArray), 6, 1⟩ : S54), (⟨(⟨#[98, 101, 113]⟩ : ByteArray), 6, 1⟩ : S54), (⟨(⟨#[98, 110, 101]⟩ : ByteArray), 6, 1⟩ : S54), (⟨(⟨#[98, 108, 116]⟩ : ByteArray), 6, 1⟩ : S54), (⟨(⟨#[98, 103, 101]⟩ : ByteArray), 6, 1⟩ : S54), (⟨(⟨#[98, 108, 116, 117]⟩ : ByteArray), 6, 1⟩ : S54), (⟨(⟨#[106, 109, 112]⟩ : ByteArray), 7, 1⟩ : S54), (⟨(⟨#[106, 97, 108]⟩ : ByteArray), 5, 1⟩ : S54), (⟨(⟨#[106, 114]⟩ : ByteArray), 2, 1⟩ : S54), (⟨(⟨#[99, 121, 99]⟩ : ByteArray), 2, 1⟩ : S54), (⟨(⟨#[104, 121, 112]⟩ : ByteArray), 7, 24⟩ : S54)] : List (S54))) := ⟨_, rfl⟩
  replace H : (some y101) = some r := by first | (rw [hy101]; with_reducible exact H) | (have H2_ := (Option.bind_some _ _).symm.trans H; rw [hy101]; with_reducible exact H2_) | (have H2_ := (Option.bind_some _ _).symm.trans H; with_reducible exact H2_) | with_reducible exact H | (rw [hy101]; exact H) | exact H
  have Ny101 := Aside0.mk hy101
  clear hy101
  obtain rfl := Option.some.inj H
  go_enter Tryd.func29, Tryd.ntmps29
  go_wp2_with (first | ((with_reducible refine gate_dst (N := 31) rfl ?_); refine Kd.R_lit k54 _ 54 ?hg (N := 31) ?hd (xs := ([(⟨(⟨#[110, 111, 112]⟩ : ByteArray), 1, 1⟩ : S54), (⟨(⟨#[109, 111, 118]⟩ : ByteArray), 3, 1⟩ : S54), (⟨(⟨#[108, 105]⟩ : ByteArray), 5, 1⟩ : S54), (⟨(⟨#[104, 105]⟩ : ByteArray), 5, 1⟩ : S54), (⟨(⟨#[97, 100, 100]⟩ : ByteArray), 4, 1⟩ : S54), (⟨(⟨#[115, 117, 98]⟩ : ByteArray), 4, 1⟩ : S54), (⟨(⟨#[109, 117, 108]⟩ : ByteArray), 4, 3⟩ : S54), (⟨(⟨#[100, 105, 118]⟩ : ByteArray), 4, 8⟩ : S54), (⟨(⟨#[114, 101, 109]⟩ : ByteArray), 4, 8⟩ : S54), (⟨(⟨#[97, 110, 100]⟩ : ByteArray), 4, 1⟩ : S54), (⟨(⟨#[111, 114]⟩ : ByteArray), 4, 1⟩ : S54), (⟨(⟨#[120, 111, 114]⟩ : ByteArray), 4, 1⟩ : S54), (⟨(⟨#[115, 104, 108]⟩ : ByteArray), 4, 1⟩ : S54), (⟨(⟨#[115, 104, 114]⟩ : ByteArray), 4, 1⟩ : S54), (⟨(⟨#[115, 97, 114]⟩ : ByteArray), 4, 1⟩ : S54), (⟨(⟨#[115, 108, 116]⟩ : ByteArray), 4, 1⟩ : S54), (⟨(⟨#[115, 108, 116, 117]⟩ : ByteArray), 4, 1⟩ : S54), (⟨(⟨#[97, 100, 100, 105]⟩ : ByteArray), 6, 1⟩ : S54), (⟨(⟨#[108, 100]⟩ : ByteArray), 6, 1⟩ : S54), (⟨(⟨#[115, 116]⟩ : ByteArray), 6, 1⟩ : S54), (⟨(⟨#[98, 101, 113]⟩ : ByteArray), 6, 1⟩ : S54), (⟨(⟨#[98, 110, 101]⟩ : ByteArray), 6, 1⟩ : S54), (⟨(⟨#[98, 108, 116]⟩ : ByteArray), 6, 1⟩ : S54), (⟨(⟨#[98, 103, 101]⟩ : ByteArray), 6, 1⟩ : S54), (⟨(⟨#[98, 108, 116, 117]⟩ : ByteArray), 6, 1⟩ : S54), (⟨(⟨#[106, 109, 112]⟩ : ByteArray), 7, 1⟩ : S54), (⟨(⟨#[106, 97, 108]⟩ : ByteArray), 5, 1⟩ : S54), (⟨(⟨#[106, 114]⟩ : ByteArray), 2, 1⟩ : S54), (⟨(⟨#[99, 121, 99]⟩ : ByteArray), 2, 1⟩ : S54), (⟨(⟨#[104, 121, 112]⟩ : ByteArray), 7, 24⟩ : S54)] : List (S54))) (inner := [.string (⟨#[110, 111, 112]⟩ : ByteArray), .int .i64 1, .int .i64 1, .string (⟨#[109, 111, 118]⟩ : ByteArray), .int .i64 3, .int .i64 1, .string (⟨#[108, 105]⟩ : ByteArray), .int .i64 5, .int .i64 1, .string (⟨#[104, 105]⟩ : ByteArray), .int .i64 5, .int .i64 1, .string (⟨#[97, 100, 100]⟩ : ByteArray), .int .i64 4, .int .i64 1, .string (⟨#[115, 117, 98]⟩ : ByteArray), .int .i64 4, .int .i64 1, .string (⟨#[109, 117, 108]⟩ : ByteArray), .int .i64 4, .int .i64 3, .string (⟨#[100, 105, 118]⟩ : ByteArray), .int .i64 4, .int .i64 8, .string (⟨#[114, 101, 109]⟩ : ByteArray), .int .i64 4, .int .i64 8, .string (⟨#[97, 110, 100]⟩ : ByteArray), .int .i64 4, .int .i64 1, .string (⟨#[111, 114]⟩ : ByteArray), .int .i64 4, .int .i64 1, .string (⟨#[120, 111, 114]⟩ : ByteArray), .int .i64 4, .int .i64 1, .string (⟨#[115, 104, 108]⟩ : ByteArray), .int .i64 4, .int .i64 1, .string (⟨#[115, 104, 114]⟩ : ByteArray), .int .i64 4, .int .i64 1, .string (⟨#[115, 97, 114]⟩ : ByteArray), .int .i64 4, .int .i64 1, .string (⟨#[115, 108, 116]⟩ : ByteArray), .int .i64 4, .int .i64 1, .string (⟨#[115, 108, 116, 117]⟩ : ByteArray), .int .i64 4, .int .i64 1, .string (⟨#[97, 100, 100, 105]⟩ : ByteArray), .int .i64 6, .int .i64 1, .string (⟨#[108, 100]⟩ : ByteArray), .int .i64 6, .int .i64 1, .string (⟨#[115, 116]⟩ : ByteArray), .int .i64 6, .int .i64 1, .string (⟨#[98, 101, 113]⟩ : ByteArray), .int .i64 6, .int .i64 1, .string (⟨#[98, 110, 101]⟩ : ByteArray), .int .i64 6, .int .i64 1, .string (⟨#[98, 108, 116]⟩ : ByteArray), .int .i64 6, .int .i64 1, .string (⟨#[98, 103, 101]⟩ : ByteArray), .int .i64 6, .int .i64 1, .string (⟨#[98, 108, 116, 117]⟩ : ByteArray), .int .i64 6, .int .i64 1, .string (⟨#[106, 109, 112]⟩ : ByteArray), .int .i64 7, .int .i64 1, .string (⟨#[106, 97, 108]⟩ : ByteArray), .int .i64 5, .int .i64 1, .string (⟨#[106, 114]⟩ : ByteArray), .int .i64 2, .int .i64 1, .string (⟨#[99, 121, 99]⟩ : ByteArray), .int .i64 2, .int .i64 1, .string (⟨#[104, 121, 112]⟩ : ByteArray), .int .i64 7, .int .i64 24]) (ok := fun _ => True) (okp := fun _ => True) ?hr ?hp (fun _ hk => hk) trivial (Below.refl _ _) (Nat.le_refl _) (by simp) ?_; (case hd => rfl); (case hg => rfl); (case hr => first | (go_simp; done) | (go_simp; rfl)); (case hp => exact (Reps.c3 (show Kd.M k54 _ _ _ (⟨(⟨#[110, 111, 112]⟩ : ByteArray), 1, 1⟩ : S54) [.string (⟨#[110, 111, 112]⟩ : ByteArray), .int .i64 1, .int .i64 1] from (k54_mkM _ _ _ (⟨(⟨#[110, 111, 112]⟩ : ByteArray), 1, 1⟩ : S54) )) (Reps.c3 (show Kd.M k54 _ _ _ (⟨(⟨#[109, 111, 118]⟩ : ByteArray), 3, 1⟩ : S54) [.string (⟨#[109, 111, 118]⟩ : ByteArray), .int .i64 3, .int .i64 1] from (k54_mkM _ _ _ (⟨(⟨#[109, 111, 118]⟩ : ByteArray), 3, 1⟩ : S54) )) (Reps.c3 (show Kd.M k54 _ _ _ (⟨(⟨#[108, 105]⟩ : ByteArray), 5, 1⟩ : S54) [.string (⟨#[108, 105]⟩ : ByteArray), .int .i64 5, .int .i64 1] from (k54_mkM _ _ _ (⟨(⟨#[108, 105]⟩ : ByteArray), 5, 1⟩ : S54) )) (Reps.c3 (show Kd.M k54 _ _ _ (⟨(⟨#[104, 105]⟩ : ByteArray), 5, 1⟩ : S54) [.string (⟨#[104, 105]⟩ : ByteArray), .int .i64 5, .int .i64 1] from (k54_mkM _ _ _ (⟨(⟨#[104, 105]⟩ : ByteArray), 5, 1⟩ : S54) )) (Reps.c3 (show Kd.M k54 _ _ _ (⟨(⟨#[97, 100, 100]⟩ : ByteArray), 4, 1⟩ : S54) [.string (⟨#[97, 100, 100]⟩ : ByteArray), .int .i64 4, .int .i64 1] from (k54_mkM _ _ _ (⟨(⟨#[97, 100, 100]⟩ : ByteArray), 4, 1⟩ : S54) )) (Reps.c3 (show Kd.M k54 _ _ _ (⟨(⟨#[115, 117, 98]⟩ : ByteArray), 4, 1⟩ : S54) [.string (⟨#[115, 117, 98]⟩ : ByteArray), .int .i64 4, .int .i64 1] from (k54_mkM _ _ _ (⟨(⟨#[115, 117, 98]⟩ : ByteArray), 4, 1⟩ : S54) )) (Reps.c3 (show Kd.M k54 _ _ _ (⟨(⟨#[109, 117, 108]⟩ : ByteArray), 4, 3⟩ : S54) [.string (⟨#[109, 117, 108]⟩ : ByteArray), .int .i64 4, .int .i64 3] from (k54_mkM _ _ _ (⟨(⟨#[109, 117, 108]⟩ : ByteArray), 4, 3⟩ : S54) )) (Reps.c3 (show Kd.M k54 _ _ _ (⟨(⟨#[100, 105, 118]⟩ : ByteArray), 4, 8⟩ : S54) [.string (⟨#[100, 105, 118]⟩ : ByteArray), .int .i64 4, .int .i64 8] from (k54_mkM _ _ _ (⟨(⟨#[100, 105, 118]⟩ : ByteArray), 4, 8⟩ : S54) )) (Reps.c3 (show Kd.M k54 _ _ _ (⟨(⟨#[114, 101, 109]⟩ : ByteArray), 4, 8⟩ : S54) [.string (⟨#[114, 101, 109]⟩ : ByteArray), .int .i64 4, .int .i64 8] from (k54_mkM _ _ _ (⟨(⟨#[114, 101, 109]⟩ : ByteArray), 4, 8⟩ : S54) )) (Reps.c3 (show Kd.M k54 _ _ _ (⟨(⟨#[97, 110, 100]⟩ : ByteArray), 4, 1⟩ : S54) [.string (⟨#[97, 110, 100]⟩ : ByteArray), .int .i64 4, .int .i64 1] from (k54_mkM _ _ _ (⟨(⟨#[97, 110, 100]⟩ : ByteArray), 4, 1⟩ : S54) )) (Reps.c3 (show Kd.M k54 _ _ _ (⟨(⟨#[111, 114]⟩ : ByteArray), 4, 1⟩ : S54) [.string (⟨#[111, 114]⟩ : ByteArray), .int .i64 4, .int .i64 1] from (k54_mkM _ _ _ (⟨(⟨#[111, 114]⟩ : ByteArray), 4, 1⟩ : S54) )) (Reps.c3 (show Kd.M k54 _ _ _ (⟨(⟨#[120, 111, 114]⟩ : ByteArray), 4, 1⟩ : S54) [.string (⟨#[120, 111, 114]⟩ : ByteArray), .int .i64 4, .int .i64 1] from (k54_mkM _ _ _ (⟨(⟨#[120, 111, 114]⟩ : ByteArray), 4, 1⟩ : S54) )) (Reps.c3 (show Kd.M k54 _ _ _ (⟨(⟨#[115, 104, 108]⟩ : ByteArray), 4, 1⟩ : S54) [.string (⟨#[115, 104, 108]⟩ : ByteArray), .int .i64 4, .int .i64 1] from (k54_mkM _ _ _ (⟨(⟨#[115, 104, 108]⟩ : ByteArray), 4, 1⟩ : S54) )) (Reps.c3 (show Kd.M k54 _ _ _ (⟨(⟨#[115, 104, 114]⟩ : ByteArray), 4, 1⟩ : S54) [.string (⟨#[115, 104, 114]⟩ : ByteArray), .int .i64 4, .int .i64 1] from (k54_mkM _ _ _ (⟨(⟨#[115, 104, 114]⟩ : ByteArray), 4, 1⟩ : S54) )) (Reps.c3 (show Kd.M k54 _ _ _ (⟨(⟨#[115, 97, 114]⟩ : ByteArray), 4, 1⟩ : S54) [.string (⟨#[115, 97, 114]⟩ : ByteArray), .int .i64 4, .int .i64 1] from (k54_mkM _ _ _ (⟨(⟨#[115, 97, 114]⟩ : ByteArray), 4, 1⟩ : S54) )) (Reps.c3 (show Kd.M k54 _ _ _ (⟨(⟨#[115, 108, 116]⟩ : ByteArray), 4, 1⟩ : S54) [.string (⟨#[115, 108, 116]⟩ : ByteArray), .int .i64 4, .int .i64 1] from (k54_mkM _ _ _ (⟨(⟨#[115, 108, 116]⟩ : ByteArray), 4, 1⟩ : S54) )) (Reps.c3 (show Kd.M k54 _ _ _ (⟨(⟨#[115, 108, 116, 117]⟩ : ByteArray), 4, 1⟩ : S54) [.string (⟨#[115, 108, 116, 117]⟩ : ByteArray), .int .i64 4, .int .i64 1] from (k54_mkM _ _ _ (⟨(⟨#[115, 108, 116, 117]⟩ : ByteArray), 4, 1⟩ : S54) )) (Reps.c3 (show Kd.M k54 _ _ _ (⟨(⟨#[97, 100, 100, 105]⟩ : ByteArray), 6, 1⟩ : S54) [.string (⟨#[97, 100, 100, 105]⟩ : ByteArray), .int .i64 6, .int .i64 1] from (k54_mkM _ _ _ (⟨(⟨#[97, 100, 100, 105]⟩ : ByteArray), 6, 1⟩ : S54) )) (Reps.c3 (show Kd.M k54 _ _ _ (⟨(⟨#[108, 100]⟩ : ByteArray), 6, 1⟩ : S54) [.string (⟨#[108, 100]⟩ : ByteArray), .int .i64 6, .int .i64 1] from (k54_mkM _ _ _ (⟨(⟨#[108, 100]⟩ : ByteArray), 6, 1⟩ : S54) )) (Reps.c3 (show Kd.M k54 _ _ _ (⟨(⟨#[115, 116]⟩ : ByteArray), 6, 1⟩ : S54) [.string (⟨#[115, 116]⟩ : ByteArray), .int .i64 6, .int .i64 1] from (k54_mkM _ _ _ (⟨(⟨#[115, 116]⟩ : ByteArray), 6, 1⟩ : S54) )) (Reps.c3 (show Kd.M k54 _ _ _ (⟨(⟨#[98, 101, 113]⟩ : ByteArray), 6, 1⟩ : S54) [.string (⟨#[98, 101, 113]⟩ : ByteArray), .int .i64 6, .int .i64 1] from (k54_mkM _ _ _ (⟨(⟨#[98, 101, 113]⟩ : ByteArray), 6, 1⟩ : S54) )) (Reps.c3 (show Kd.M k54 _ _ _ (⟨(⟨#[98, 110, 101]⟩ : ByteArray), 6, 1⟩ : S54) [.string (⟨#[98, 110, 101]⟩ : ByteArray), .int .i64 6, .int .i64 1] from (k54_mkM _ _ _ (⟨(⟨#[98, 110, 101]⟩ : ByteArray), 6, 1⟩ : S54) )) (Reps.c3 (show Kd.M k54 _ _ _ (⟨(⟨#[98, 108, 116]⟩ : ByteArray), 6, 1⟩ : S54) [.string (⟨#[98, 108, 116]⟩ : ByteArray), .int .i64 6, .int .i64 1] from (k54_mkM _ _ _ (⟨(⟨#[98, 108, 116]⟩ : ByteArray), 6, 1⟩ : S54) )) (Reps.c3 (show Kd.M k54 _ _ _ (⟨(⟨#[98, 103, 101]⟩ : ByteArray), 6, 1⟩ : S54) [.string (⟨#[98, 103, 101]⟩ : ByteArray), .int .i64 6, .int .i64 1] from (k54_mkM _ _ _ (⟨(⟨#[98, 103, 101]⟩ : ByteArray), 6, 1⟩ : S54) )) (Reps.c3 (show Kd.M k54 _ _ _ (⟨(⟨#[98, 108, 116, 117]⟩ : ByteArray), 6, 1⟩ : S54) [.string (⟨#[98, 108, 116, 117]⟩ : ByteArray), .int .i64 6, .int .i64 1] from (k54_mkM _ _ _ (⟨(⟨#[98, 108, 116, 117]⟩ : ByteArray), 6, 1⟩ : S54) )) (Reps.c3 (show Kd.M k54 _ _ _ (⟨(⟨#[106, 109, 112]⟩ : ByteArray), 7, 1⟩ : S54) [.string (⟨#[106, 109, 112]⟩ : ByteArray), .int .i64 7, .int .i64 1] from (k54_mkM _ _ _ (⟨(⟨#[106, 109, 112]⟩ : ByteArray), 7, 1⟩ : S54) )) (Reps.c3 (show Kd.M k54 _ _ _ (⟨(⟨#[106, 97, 108]⟩ : ByteArray), 5, 1⟩ : S54) [.string (⟨#[106, 97, 108]⟩ : ByteArray), .int .i64 5, .int .i64 1] from (k54_mkM _ _ _ (⟨(⟨#[106, 97, 108]⟩ : ByteArray), 5, 1⟩ : S54) )) (Reps.c3 (show Kd.M k54 _ _ _ (⟨(⟨#[106, 114]⟩ : ByteArray), 2, 1⟩ : S54) [.string (⟨#[106, 114]⟩ : ByteArray), .int .i64 2, .int .i64 1] from (k54_mkM _ _ _ (⟨(⟨#[106, 114]⟩ : ByteArray), 2, 1⟩ : S54) )) (Reps.c3 (show Kd.M k54 _ _ _ (⟨(⟨#[99, 121, 99]⟩ : ByteArray), 2, 1⟩ : S54) [.string (⟨#[99, 121, 99]⟩ : ByteArray), .int .i64 2, .int .i64 1] from (k54_mkM _ _ _ (⟨(⟨#[99, 121, 99]⟩ : ByteArray), 2, 1⟩ : S54) )) (Reps.c3 (show Kd.M k54 _ _ _ (⟨(⟨#[104, 121, 112]⟩ : ByteArray), 7, 24⟩ : S54) [.string (⟨#[104, 121, 112]⟩ : ByteArray), .int .i64 7, .int .i64 24] from (k54_mkM _ _ _ (⟨(⟨#[104, 121, 112]⟩ : ByteArray), 7, 24⟩ : S54) )) (Reps.none _ _)))))))))))))))))))))))))))))))); intro v102 w1 ho2 hb hg_ hnew_; clear hg_ hnew_; (first | rw [← Ny101.out] at ho2 | (simp only [Int.reduceToNat] at ho2; rw [← Ny101.out] at ho2)); have n0_ := Aside0.mk (Kd.R_lower ho2 (below_size (by repeat (first | (with_reducible first | exact HB.out | apply below_alloc | apply pw_below_drewN | apply below_drew1) | exact HB.out)))); have n1_ := Aside0.mk (below_step (by repeat (first | (with_reducible first | exact HB.out | apply below_alloc | apply pw_below_drewN | apply below_drew1) | exact HB.out)) hb); clear HB; have HO103 := n0_; have HB := n1_; clear n0_ n1_; clear hb ho2))
  go_ret
  exact ⟨_, by first | rfl | (simp [errW_none, errW_some] <;> rfl) | (simp [*, errW_none, errW_some] <;> rfl), by (with_reducible repeat (first | apply Kd.R_alloc | apply Kd.R_drewN | apply Kd.R_drew)); exact HO103.out, by repeat (first | (with_reducible first | exact HB.out | apply below_alloc | apply pw_below_drewN | apply below_drew1) | exact HB.out)⟩

/-! ### bulkheadref02_of: function 30 -/
def bulkheadref02_of.f (a0 : Int) : Option (ByteArray × Int × Int × Bool) := (bulkheadref02_table.f).bind fun t105 => (if a0 < 1 then (some ((⟨#[]⟩ : ByteArray), 0, 0, false)) else (if a0 > (t105.length : Int) then (some ((⟨#[]⟩ : ByteArray), 0, 0, false)) else (if 0 ≤ (wrap64 (a0 - 1)) then (if (wrap64 (a0 - 1)) < (t105.length : Int) then (some ((rd_T54 t105 (wrap64 (a0 - 1))).f0, (rd_T54 t105 (wrap64 (a0 - 1))).f1, (rd_T54 t105 (wrap64 (a0 - 1))).f2, true)) else (none)) else (none))))
set_option maxHeartbeats 8000000 in
set_option maxRecDepth 100000 in
theorem bulkheadref02_of.calls (a0 : Int) (r1 : ByteArray) (r2 : Int) (r3 : Int) (r4 : Bool) (w : World) (h : bulkheadref02_of.f a0 = some (r1, r2, r3, r4)) :
    Calls Tryd.prog 30 #[.int .i64 a0] w fun e w' => e = .returned (.tuple #[.agg #[.string r1, .int .i64 r2, .int .i64 r3], .bool r4]) ∧ Below w.heap.size w w' := by
  have hu54 := Tryd.underlying54
  have HB := Aside0.mk (Below.refl w.heap.size w)
  have H : ((bulkheadref02_table.f).bind fun t105 => (if a0 < 1 then (some ((⟨#[]⟩ : ByteArray), 0, 0, false)) else (if a0 > (t105.length : Int) then (some ((⟨#[]⟩ : ByteArray), 0, 0, false)) else (if 0 ≤ (wrap64 (a0 - 1)) then (if (wrap64 (a0 - 1)) < (t105.length : Int) then (some ((rd_T54 t105 (wrap64 (a0 - 1))).f0, (rd_T54 t105 (wrap64 (a0 - 1))).f1, (rd_T54 t105 (wrap64 (a0 - 1))).f2, true)) else (none)) else (none))))) = some (r1, r2, r3, r4) := h
  clear h
  replace H := Option.bind_eq_some_iff.mp H
  obtain ⟨t105, A20, H⟩ := H
  replace H : (if a0 < 1 then (some ((⟨#[]⟩ : ByteArray), 0, 0, false)) else (if a0 > (t105.length : Int) then (some ((⟨#[]⟩ : ByteArray), 0, 0, false)) else (if 0 ≤ (wrap64 (a0 - 1)) then (if (wrap64 (a0 - 1)) < (t105.length : Int) then (some ((rd_T54 t105 (wrap64 (a0 - 1))).f0, (rd_T54 t105 (wrap64 (a0 - 1))).f1, (rd_T54 t105 (wrap64 (a0 - 1))).f2, true)) else (none)) else (none)))) = some (r1, r2, r3, r4) := H
  have A2 := Aside0.mk A20
  clear A20
  by_cases c3 : a0 < 1
  · rw [if_pos c3] at H
    have c3b0 : decide (a0 < 1) = true := decide_eq_true c3
    clear c3
    simp only [Option.some.injEq, Prod.mk.injEq] at H
    obtain ⟨rfl, rfl, rfl, rfl⟩ := H
    go_enter Tryd.func30, Tryd.ntmps30
    go_wp2_with (first | ((with_reducible refine gate_dst (N := 2) rfl ?_); (try (refine gate_guard (by rfl) ?_; dsimp only)); refine box_event ?hg (N := 2) ?hd (cs := #[.string (⟨#[]⟩ : ByteArray), .int .i64 0, .int .i64 0]) (t := 54) ?hr ?_; (case hd => rfl); (case hg => rfl); (case hr => first | (go_simp; done) | (go_simp; rfl)); intro gb104 hg w4 hbox hb; have n0_ := Aside0.mk (below_step (by repeat (first | (with_reducible first | exact HB.out | apply below_alloc | apply pw_below_drewN | apply below_drew1) | exact HB.out)) hb); have n1_ := Aside0.mk (hbox); have n2_ := Aside0.mk ((by rw [hg]; exact (below_size (by repeat (first | (with_reducible first | exact HB.out | apply below_alloc | apply pw_below_drewN | apply below_drew1) | exact HB.out))) : w.heap.size ≤ gb104)); have n3_ := Aside0.mk ((by rw [hg]; exact (below_size (by repeat (first | (with_reducible first | exact HB.out | apply below_alloc | apply pw_below_drewN | apply below_drew1) | exact HB.out))) : w.heap.size ≤ gb104)); clear HB; have HB := n0_; have BK104 := n1_; have GW104 := n2_; have GE104 := n3_; clear n0_ n1_ n2_ n3_; clear hb hbox hg) | ((with_reducible refine gate_callee (f := 29) rfl ?_); refine goesL_ (some 5) rfl rfl Tryd.func29 (by kernel_rfl) rfl #[] rfl (by (try simp only [List.map_toArray, List.map_cons, List.map_nil]); first | done | rfl | (simp only [List.length_drop, List.length_take]; rfl)) ?_; (with_reducible refine (bulkheadref02_table.calls  t105 _ A2.out).mono ?_); rintro e w5 ⟨v106, rfl, ho0, hb⟩; refine ⟨_, rfl, ?_⟩; have n0_ := Aside0.mk (Kd.R_lower (Kd.R_newB ho0 (g := gb104) (o := .cells #[.string (⟨#[]⟩ : ByteArray), .int .i64 0, .int .i64 0] 54 (0, 0)) (by (with_reducible repeat (first | refine blk_drewN ?_ _ | refine blk_drew ?_ | refine blk_alloc ?_ _)); exact BK104.out)) (below_size (by repeat (first | (with_reducible first | exact HB.out | apply below_alloc | apply pw_below_drewN | apply below_drew1 | refine below_set ?_ GE104.out) | exact HB.out)))); have n1_ := Aside0.mk (blk_below (g := gb104) (o := .cells #[.string (⟨#[]⟩ : ByteArray), .int .i64 0, .int .i64 0] 54 (0, 0)) (by (with_reducible repeat (first | refine blk_drewN ?_ _ | refine blk_drew ?_ | refine blk_alloc ?_ _)); exact BK104.out) hb); have n2_ := Aside0.mk (below_step (by repeat (first | (with_reducible first | exact HB.out | apply below_alloc | apply pw_below_drewN | apply below_drew1 | refine below_set ?_ GE104.out) | exact HB.out)) hb); clear BK104; clear HB; have HO107 := n0_; have BK104 := n1_; have HB := n2_; clear n0_ n1_ n2_; (try clear hb); (try clear hb2); (try clear hk); (try clear hi); (try clear ho0); have hcz6_0 : w5.cell? ⟨gb104, 0, none⟩ = some (.string (⟨#[]⟩ : ByteArray)) := (blk_cell BK104.out 0).trans rfl; have hcz6_1 : w5.cell? ⟨gb104, 1, none⟩ = some (.int .i64 0) := (blk_cell BK104.out 1).trans rfl; have hcz6_2 : w5.cell? ⟨gb104, 2, none⟩ = some (.int .i64 0) := (blk_cell BK104.out 2).trans rfl; have hfz6_0 := blk_frozen BK104.out 0; have hfz6_1 := blk_frozen BK104.out 1; have hfz6_2 := blk_frozen BK104.out 2))
    refine bodyPost_ret (results_ct rfl _ _ gb104 54 #[.string (⟨#[]⟩ : ByteArray), .int .i64 0, .int .i64 0] (0, 0) _ rfl (by (with_reducible repeat (first | refine blk_drewN ?_ _ | refine blk_drew ?_ | refine blk_alloc ?_ _)); refine blk_put (cs := #[.string (⟨#[]⟩ : ByteArray), .int .i64 0, .int .i64 0]) ?_ 2 _ rfl; (with_reducible repeat (first | refine blk_drewN ?_ _ | refine blk_drew ?_ | refine blk_alloc ?_ _)); refine blk_put (cs := #[.string (⟨#[]⟩ : ByteArray), .int .i64 0, .int .i64 0]) ?_ 1 _ rfl; (with_reducible repeat (first | refine blk_drewN ?_ _ | refine blk_drew ?_ | refine blk_alloc ?_ _)); refine blk_put (cs := #[.string (⟨#[]⟩ : ByteArray), .int .i64 0, .int .i64 0]) ?_ 0 _ rfl; (with_reducible repeat (first | refine blk_drewN ?_ _ | refine blk_drew ?_ | refine blk_alloc ?_ _)); exact BK104.out) Tryd.underlying54 rfl (by kernel_rfl)) rfl ?_
    exact ⟨by first | rfl | (simp [errW_none, errW_some] <;> rfl) | (simp [*, errW_none, errW_some] <;> rfl), by repeat (first | (with_reducible first | exact HB.out | apply below_alloc | apply pw_below_drewN | apply below_drew1 | refine below_set ?_ GE104.out) | exact HB.out)⟩
  · rw [if_neg c3] at H
    have c3b0 : decide (a0 < 1) = false := decide_eq_false c3
    clear c3
    by_cases c7 : a0 > (t105.length : Int)
    · rw [if_pos c7] at H
      have c7b0 : decide ((t105.length : Int) < a0) = true := decide_eq_true c7
      clear c7
      simp only [Option.some.injEq, Prod.mk.injEq] at H
      obtain ⟨rfl, rfl, rfl, rfl⟩ := H
      go_enter Tryd.func30, Tryd.ntmps30
      go_wp2_with (first | ((with_reducible refine gate_dst (N := 2) rfl ?_); (try (refine gate_guard (by rfl) ?_; dsimp only)); refine box_event ?hg (N := 2) ?hd (cs := #[.string (⟨#[]⟩ : ByteArray), .int .i64 0, .int .i64 0]) (t := 54) ?hr ?_; (case hd => rfl); (case hg => rfl); (case hr => first | (go_simp; done) | (go_simp; rfl)); intro gb104 hg w8 hbox hb; have n0_ := Aside0.mk (below_step (by repeat (first | (with_reducible first | exact HB.out | apply below_alloc | apply pw_below_drewN | apply below_drew1) | exact HB.out)) hb); have n1_ := Aside0.mk (hbox); have n2_ := Aside0.mk ((by rw [hg]; exact (below_size (by repeat (first | (with_reducible first | exact HB.out | apply below_alloc | apply pw_below_drewN | apply below_drew1) | exact HB.out))) : w.heap.size ≤ gb104)); have n3_ := Aside0.mk ((by rw [hg]; exact (below_size (by repeat (first | (with_reducible first | exact HB.out | apply below_alloc | apply pw_below_drewN | apply below_drew1) | exact HB.out))) : w.heap.size ≤ gb104)); clear HB; have HB := n0_; have BK104 := n1_; have GW104 := n2_; have GE104 := n3_; clear n0_ n1_ n2_ n3_; clear hb hbox hg) | ((with_reducible refine gate_callee (f := 29) rfl ?_); refine goesL_ (some 5) rfl rfl Tryd.func29 (by kernel_rfl) rfl #[] rfl (by (try simp only [List.map_toArray, List.map_cons, List.map_nil]); first | done | rfl | (simp only [List.length_drop, List.length_take]; rfl)) ?_; (with_reducible refine (bulkheadref02_table.calls  t105 _ A2.out).mono ?_); rintro e w9 ⟨v106, rfl, ho0, hb⟩; refine ⟨_, rfl, ?_⟩; have n0_ := Aside0.mk (Kd.R_lower (Kd.R_newB ho0 (g := gb104) (o := .cells #[.string (⟨#[]⟩ : ByteArray), .int .i64 0, .int .i64 0] 54 (0, 0)) (by (with_reducible repeat (first | refine blk_drewN ?_ _ | refine blk_drew ?_ | refine blk_alloc ?_ _)); exact BK104.out)) (below_size (by repeat (first | (with_reducible first | exact HB.out | apply below_alloc | apply pw_below_drewN | apply below_drew1 | refine below_set ?_ GE104.out) | exact HB.out)))); have n1_ := Aside0.mk (blk_below (g := gb104) (o := .cells #[.string (⟨#[]⟩ : ByteArray), .int .i64 0, .int .i64 0] 54 (0, 0)) (by (with_reducible repeat (first | refine blk_drewN ?_ _ | refine blk_drew ?_ | refine blk_alloc ?_ _)); exact BK104.out) hb); have n2_ := Aside0.mk (below_step (by repeat (first | (with_reducible first | exact HB.out | apply below_alloc | apply pw_below_drewN | apply below_drew1 | refine below_set ?_ GE104.out) | exact HB.out)) hb); clear BK104; clear HB; have HO107 := n0_; have BK104 := n1_; have HB := n2_; clear n0_ n1_ n2_; (try clear hb); (try clear hb2); (try clear hk); (try clear hi); (try clear ho0); obtain ⟨Ao10, co10, eo10⟩ := Kd.R_slice HO107.out; subst eo10; have hcz11_0 : w9.cell? ⟨gb104, 0, none⟩ = some (.string (⟨#[]⟩ : ByteArray)) := (blk_cell BK104.out 0).trans rfl; have hcz11_1 : w9.cell? ⟨gb104, 1, none⟩ = some (.int .i64 0) := (blk_cell BK104.out 1).trans rfl; have hcz11_2 : w9.cell? ⟨gb104, 2, none⟩ = some (.int .i64 0) := (blk_cell BK104.out 2).trans rfl; have hfz11_0 := blk_frozen BK104.out 0; have hfz11_1 := blk_frozen BK104.out 1; have hfz11_2 := blk_frozen BK104.out 2))
      refine bodyPost_ret (results_ct rfl _ _ gb104 54 #[.string (⟨#[]⟩ : ByteArray), .int .i64 0, .int .i64 0] (0, 0) _ rfl (by (with_reducible repeat (first | refine blk_drewN ?_ _ | refine blk_drew ?_ | refine blk_alloc ?_ _)); refine blk_put (cs := #[.string (⟨#[]⟩ : ByteArray), .int .i64 0, .int .i64 0]) ?_ 2 _ rfl; (with_reducible repeat (first | refine blk_drewN ?_ _ | refine blk_drew ?_ | refine blk_alloc ?_ _)); refine blk_put (cs := #[.string (⟨#[]⟩ : ByteArray), .int .i64 0, .int .i64 0]) ?_ 1 _ rfl; (with_reducible repeat (first | refine blk_drewN ?_ _ | refine blk_drew ?_ | refine blk_alloc ?_ _)); refine blk_put (cs := #[.string (⟨#[]⟩ : ByteArray), .int .i64 0, .int .i64 0]) ?_ 0 _ rfl; (with_reducible repeat (first | refine blk_drewN ?_ _ | refine blk_drew ?_ | refine blk_alloc ?_ _)); exact BK104.out) Tryd.underlying54 rfl (by kernel_rfl)) rfl ?_
      exact ⟨by first | rfl | (simp [errW_none, errW_some] <;> rfl) | (simp [*, errW_none, errW_some] <;> rfl), by repeat (first | (with_reducible first | exact HB.out | apply below_alloc | apply pw_below_drewN | apply below_drew1 | refine below_set ?_ GE104.out) | exact HB.out)⟩
    · rw [if_neg c7] at H
      have c7b0 : decide ((t105.length : Int) < a0) = false := decide_eq_false c7
      clear c7
      obtain ⟨ji12, hji12⟩ : ∃ j_ : Int, (wrap64 (a0 - 1)) = j_ := ⟨_, rfl⟩
      replace H : (if 0 ≤ (ji12) then (if (ji12) < (t105.length : Int) then (some ((rd_T54 t105 (ji12)).f0, (rd_T54 t105 (ji12)).f1, (rd_T54 t105 (ji12)).f2, true)) else (none)) else (none)) = some (r1, r2, r3, r4) := by first | (rw [hji12] at H; exact H) | (simp only [hji12] at H ⊢; exact H)
      (try rw [hji12] at A2)
      have hji12w : (IntKind.i64.wrap (a0 - 1)) = ji12 := (i64_w _).trans hji12
      by_cases c13 : 0 ≤ (ji12)
      · rw [if_pos c13] at H
        have c13b0 : decide (0 ≤ (ji12)) = true := decide_eq_true c13
        clear c13
        by_cases c14 : (ji12) < (t105.length : Int)
        · rw [if_pos c14] at H
          have c14b0 : decide ((ji12) < (t105.length : Int)) = true := decide_eq_true c14
          clear c14
          simp only [Option.some.injEq, Prod.mk.injEq] at H
          obtain ⟨rfl, rfl, rfl, rfl⟩ := H
          go_enter Tryd.func30, Tryd.ntmps30
          go_wp2_with (first | ((with_reducible refine gate_dst (N := 2) rfl ?_); (try (refine gate_guard (by rfl) ?_; dsimp only)); refine box_event ?hg (N := 2) ?hd (cs := #[.string (⟨#[]⟩ : ByteArray), .int .i64 0, .int .i64 0]) (t := 54) ?hr ?_; (case hd => rfl); (case hg => rfl); (case hr => first | (go_simp; done) | (go_simp; rfl)); intro gb104 hg w15 hbox hb; have n0_ := Aside0.mk (below_step (by repeat (first | (with_reducible first | exact HB.out | apply below_alloc | apply pw_below_drewN | apply below_drew1) | exact HB.out)) hb); have n1_ := Aside0.mk (hbox); have n2_ := Aside0.mk ((by rw [hg]; exact (below_size (by repeat (first | (with_reducible first | exact HB.out | apply below_alloc | apply pw_below_drewN | apply below_drew1) | exact HB.out))) : w.heap.size ≤ gb104)); have n3_ := Aside0.mk ((by rw [hg]; exact (below_size (by repeat (first | (with_reducible first | exact HB.out | apply below_alloc | apply pw_below_drewN | apply below_drew1) | exact HB.out))) : w.heap.size ≤ gb104)); clear HB; have HB := n0_; have BK104 := n1_; have GW104 := n2_; have GE104 := n3_; clear n0_ n1_ n2_ n3_; clear hb hbox hg) | ((with_reducible refine gate_callee (f := 29) rfl ?_); refine goesL_ (some 5) rfl rfl Tryd.func29 (by kernel_rfl) rfl #[] rfl (by (try simp only [List.map_toArray, List.map_cons, List.map_nil]); first | done | rfl | (simp only [List.length_drop, List.length_take]; rfl)) ?_; (with_reducible refine (bulkheadref02_table.calls  t105 _ A2.out).mono ?_); rintro e w16 ⟨v106, rfl, ho0, hb⟩; refine ⟨_, rfl, ?_⟩; have n0_ := Aside0.mk (Kd.R_lower (Kd.R_newB ho0 (g := gb104) (o := .cells #[.string (⟨#[]⟩ : ByteArray), .int .i64 0, .int .i64 0] 54 (0, 0)) (by (with_reducible repeat (first | refine blk_drewN ?_ _ | refine blk_drew ?_ | refine blk_alloc ?_ _)); exact BK104.out)) (below_size (by repeat (first | (with_reducible first | exact HB.out | apply below_alloc | apply pw_below_drewN | apply below_drew1 | refine below_set ?_ GE104.out) | exact HB.out)))); have n1_ := Aside0.mk (blk_below (g := gb104) (o := .cells #[.string (⟨#[]⟩ : ByteArray), .int .i64 0, .int .i64 0] 54 (0, 0)) (by (with_reducible repeat (first | refine blk_drewN ?_ _ | refine blk_drew ?_ | refine blk_alloc ?_ _)); exact BK104.out) hb); have n2_ := Aside0.mk (below_step (by repeat (first | (with_reducible first | exact HB.out | apply below_alloc | apply pw_below_drewN | apply below_drew1 | refine below_set ?_ GE104.out) | exact HB.out)) hb); clear BK104; clear HB; have HO107 := n0_; have BK104 := n1_; have HB := n2_; clear n0_ n1_ n2_; (try clear hb); (try clear hb2); (try clear hk); (try clear hi); (try clear ho0); obtain ⟨Ao17, co17, eo17⟩ := Kd.R_slice HO107.out; subst eo17; have p108 : 0 ≤ ((ji12) : Int) := of_decide_eq_true (by first | (with_reducible assumption) | assumption); have q108 : (ji12) < (t105.length : Int) := of_decide_eq_true (by first | (with_reducible assumption) | assumption); obtain ⟨ad108, e108, hx108_0, hx108_1, hx108_2⟩ := at_T54 (Kd.R_reads' HO107.out).2.2 (ji12) p108 q108; cases e108; replace p108 := eq_true p108; replace q108 := eq_true q108; have hcz18_0 : w16.cell? ⟨gb104, 0, none⟩ = some (.string (⟨#[]⟩ : ByteArray)) := (blk_cell BK104.out 0).trans rfl; have hcz18_1 : w16.cell? ⟨gb104, 1, none⟩ = some (.int .i64 0) := (blk_cell BK104.out 1).trans rfl; have hcz18_2 : w16.cell? ⟨gb104, 2, none⟩ = some (.int .i64 0) := (blk_cell BK104.out 2).trans rfl; have hfz18_0 := blk_frozen BK104.out 0; have hfz18_1 := blk_frozen BK104.out 1; have hfz18_2 := blk_frozen BK104.out 2))
          refine bodyPost_ret (results_ct rfl _ _ gb104 54 #[.string ((rd_T54 t105 (ji12)).f0), .int .i64 ((rd_T54 t105 (ji12)).f1), .int .i64 ((rd_T54 t105 (ji12)).f2)] (0, 0) _ rfl (by (with_reducible repeat (first | refine blk_drewN ?_ _ | refine blk_drew ?_ | refine blk_alloc ?_ _)); refine blk_put (cs := #[.string ((rd_T54 t105 (ji12)).f0), .int .i64 ((rd_T54 t105 (ji12)).f1), .int .i64 0]) ?_ 2 _ rfl; (with_reducible repeat (first | refine blk_drewN ?_ _ | refine blk_drew ?_ | refine blk_alloc ?_ _)); refine blk_put (cs := #[.string ((rd_T54 t105 (ji12)).f0), .int .i64 0, .int .i64 0]) ?_ 1 _ rfl; (with_reducible repeat (first | refine blk_drewN ?_ _ | refine blk_drew ?_ | refine blk_alloc ?_ _)); refine blk_put (cs := #[.string (⟨#[]⟩ : ByteArray), .int .i64 0, .int .i64 0]) ?_ 0 _ rfl; (with_reducible repeat (first | refine blk_drewN ?_ _ | refine blk_drew ?_ | refine blk_alloc ?_ _)); exact BK104.out) Tryd.underlying54 rfl (by kernel_rfl)) rfl ?_
          exact ⟨by first | rfl | (simp [errW_none, errW_some] <;> rfl) | (simp only [← hji12]; first | rfl | (simp [errW_none, errW_some] <;> rfl)) | (simp [*, errW_none, errW_some] <;> rfl), by repeat (first | (with_reducible first | exact HB.out | apply below_alloc | apply pw_below_drewN | apply below_drew1 | refine below_set ?_ GE104.out) | exact HB.out)⟩
        · rw [if_neg c14] at H
          exact absurd H (by simp)
      · rw [if_neg c13] at H
        exact absurd H (by simp)

/-! ### bulkheadref02_Form: function 19 -/
def bulkheadref02_Form.f (a0 : Int) : Option (Int) := (bulkheadref02_of.f a0).bind fun bt109 => (some bt109.2.1)
set_option maxHeartbeats 8000000 in
set_option maxRecDepth 100000 in
theorem bulkheadref02_Form.calls (a0 : Int) (r : Int) (w : World) (h : bulkheadref02_Form.f a0 = some r) :
    Calls Tryd.prog 19 #[.int .i64 a0] w fun e w' => e = .returned (.int .i64 r) ∧ Below w.heap.size w w' := by
  have hu54 := Tryd.underlying54
  have HB := Aside0.mk (Below.refl w.heap.size w)
  have H : ((bulkheadref02_of.f a0).bind fun bt109 => (some bt109.2.1)) = some r := h
  clear h
  replace H := Option.bind_eq_some_iff.mp H
  obtain ⟨⟨t109, t110, t111, t112⟩, A20, H⟩ := H
  replace H : (some t110) = some r := H
  have A2 := Aside0.mk A20
  clear A20
  obtain rfl := Option.some.inj H
  go_enter Tryd.func19, Tryd.ntmps19
  go_wp2_with (first | ((with_reducible refine gate_callee (f := 30) rfl ?_); refine goesL_ (some 7) rfl rfl Tryd.func30 (by kernel_rfl) rfl #[.int .i64 a0] rfl (by (try simp only [List.map_toArray, List.map_cons, List.map_nil]); first | done | rfl | (simp only [List.length_drop, List.length_take]; rfl)) ?_; (with_reducible refine (bulkheadref02_of.calls a0 t109 t110 t111 t112 _ A2.out).mono ?_); rintro e w3 ⟨rfl, hb⟩; refine ⟨_, rfl, ?_⟩; have n0_ := Aside0.mk (below_step (by repeat (first | (with_reducible first | exact HB.out | apply below_alloc | apply pw_below_drewN | apply below_drew1) | exact HB.out)) hb); clear HB; have HB := n0_; clear n0_; (try clear hb); (try clear hb2); (try clear hk); (try clear hi)) | ((with_reducible refine gate_dst (N := 3) rfl ?_); refine box_event ?hg (N := 3) ?hd (cs := #[.string (⟨#[]⟩ : ByteArray), .int .i64 0, .int .i64 0]) (t := 54) ?hr ?_; (case hd => rfl); (case hg => rfl); (case hr => first | (go_simp; done) | (go_simp; rfl)); intro gb113 hg w4 hbox hb; have n0_ := Aside0.mk (below_step (by repeat (first | (with_reducible first | exact HB.out | apply below_alloc | apply pw_below_drewN | apply below_drew1) | exact HB.out)) hb); have n1_ := Aside0.mk (hbox); have n2_ := Aside0.mk ((by rw [hg]; exact (below_size (by repeat (first | (with_reducible first | exact HB.out | apply below_alloc | apply pw_below_drewN | apply below_drew1) | exact HB.out))) : w.heap.size ≤ gb113)); have n3_ := Aside0.mk ((by rw [hg]; exact (below_size (by repeat (first | (with_reducible first | exact HB.out | apply below_alloc | apply pw_below_drewN | apply below_drew1) | exact HB.out))) : w.heap.size ≤ gb113)); clear HB; have HB := n0_; have BK113 := n1_; have GW113 := n2_; have GE113 := n3_; clear n0_ n1_ n2_ n3_; clear hb hbox hg; have hcz5_0 : w4.cell? ⟨gb113, 0, none⟩ = some (.string (⟨#[]⟩ : ByteArray)) := (blk_cell BK113.out 0).trans rfl; have hcz5_1 : w4.cell? ⟨gb113, 1, none⟩ = some (.int .i64 0) := (blk_cell BK113.out 1).trans rfl; have hcz5_2 : w4.cell? ⟨gb113, 2, none⟩ = some (.int .i64 0) := (blk_cell BK113.out 2).trans rfl; have hfz5_0 := blk_frozen BK113.out 0; have hfz5_1 := blk_frozen BK113.out 1; have hfz5_2 := blk_frozen BK113.out 2))
  go_ret
  exact ⟨by first | rfl | (simp [errW_none, errW_some] <;> rfl) | (simp [*, errW_none, errW_some] <;> rfl), by repeat (first | (with_reducible first | exact HB.out | apply below_alloc | apply pw_below_drewN | apply below_drew1 | refine below_set ?_ GE113.out) | exact HB.out)⟩

/-! ### bulkheadref02_Has: function 25 -/
def bulkheadref02_Has.f (a0 : Int) : Option (Bool × Bool × Bool × Bool) := if a0 ≥ 2 then (if a0 = 3 then (if a0 = 5 then (some (decide (a0 ≤ 6), true, (a0 == 4), true)) else (if a0 = 6 then (some (decide (a0 ≤ 6), true, (a0 == 4), true)) else (some (decide (a0 ≤ 6), true, (a0 == 4), (a0 == 7))))) else (if a0 = 4 then (if a0 = 5 then (some (decide (a0 ≤ 6), true, (a0 == 4), true)) else (if a0 = 6 then (some (decide (a0 ≤ 6), true, (a0 == 4), true)) else (some (decide (a0 ≤ 6), true, (a0 == 4), (a0 == 7))))) else (if a0 = 5 then (some (decide (a0 ≤ 6), (a0 == 6), (a0 == 4), true)) else (if a0 = 6 then (some (decide (a0 ≤ 6), (a0 == 6), (a0 == 4), true)) else (some (decide (a0 ≤ 6), (a0 == 6), (a0 == 4), (a0 == 7))))))) else (if a0 = 3 then (if a0 = 5 then (some (false, true, (a0 == 4), true)) else (if a0 = 6 then (some (false, true, (a0 == 4), true)) else (some (false, true, (a0 == 4), (a0 == 7))))) else (if a0 = 4 then (if a0 = 5 then (some (false, true, (a0 == 4), true)) else (if a0 = 6 then (some (false, true, (a0 == 4), true)) else (some (false, true, (a0 == 4), (a0 == 7))))) else (if a0 = 5 then (some (false, (a0 == 6), (a0 == 4), true)) else (if a0 = 6 then (some (false, (a0 == 6), (a0 == 4), true)) else (some (false, (a0 == 6), (a0 == 4), (a0 == 7)))))))
set_option maxHeartbeats 8000000 in
set_option maxRecDepth 100000 in
theorem bulkheadref02_Has.calls (a0 : Int) (r1 : Bool) (r2 : Bool) (r3 : Bool) (r4 : Bool) (w : World) (h : bulkheadref02_Has.f a0 = some (r1, r2, r3, r4)) :
    Calls Tryd.prog 25 #[.int .i64 a0] w fun e w' => e = .returned (.tuple #[.bool r1, .bool r2, .bool r3, .bool r4]) ∧ Drawn0 w w' := by
  have H : (if a0 ≥ 2 then (if a0 = 3 then (if a0 = 5 then (some (decide (a0 ≤ 6), true, (a0 == 4), true)) else (if a0 = 6 then (some (decide (a0 ≤ 6), true, (a0 == 4), true)) else (some (decide (a0 ≤ 6), true, (a0 == 4), (a0 == 7))))) else (if a0 = 4 then (if a0 = 5 then (some (decide (a0 ≤ 6), true, (a0 == 4), true)) else (if a0 = 6 then (some (decide (a0 ≤ 6), true, (a0 == 4), true)) else (some (decide (a0 ≤ 6), true, (a0 == 4), (a0 == 7))))) else (if a0 = 5 then (some (decide (a0 ≤ 6), (a0 == 6), (a0 == 4), true)) else (if a0 = 6 then (some (decide (a0 ≤ 6), (a0 == 6), (a0 == 4), true)) else (some (decide (a0 ≤ 6), (a0 == 6), (a0 == 4), (a0 == 7))))))) else (if a0 = 3 then (if a0 = 5 then (some (false, true, (a0 == 4), true)) else (if a0 = 6 then (some (false, true, (a0 == 4), true)) else (some (false, true, (a0 == 4), (a0 == 7))))) else (if a0 = 4 then (if a0 = 5 then (some (false, true, (a0 == 4), true)) else (if a0 = 6 then (some (false, true, (a0 == 4), true)) else (some (false, true, (a0 == 4), (a0 == 7))))) else (if a0 = 5 then (some (false, (a0 == 6), (a0 == 4), true)) else (if a0 = 6 then (some (false, (a0 == 6), (a0 == 4), true)) else (some (false, (a0 == 6), (a0 == 4), (a0 == 7)))))))) = some (r1, r2, r3, r4) := h
  clear h
  by_cases c2 : a0 ≥ 2
  · rw [if_pos c2] at H
    have c2b0 : decide (2 ≤ a0) = true := decide_eq_true c2
    clear c2
    by_cases c3 : a0 = 3
    · rw [if_pos c3] at H
      have c3b0 : (a0 == 3) = true := beq_iff_eq.mpr c3
      have c3b1 : (a0 != 3) = false := bne_eq_false_iff_eq.mpr c3
      clear c3
      by_cases c4 : a0 = 5
      · rw [if_pos c4] at H
        have c4b0 : (a0 == 5) = true := beq_iff_eq.mpr c4
        have c4b1 : (a0 != 5) = false := bne_eq_false_iff_eq.mpr c4
        clear c4
        simp only [Option.some.injEq, Prod.mk.injEq] at H
        obtain ⟨rfl, rfl, rfl, rfl⟩ := H
        go_enter Tryd.func25, Tryd.ntmps25
        go_wp2
        refine bodyPost_ret (results_list (rs := [.tmp 2, .tmp 3, .tmp 4, .tmp 5]) rfl (by simp) (.tmp (.tmp (.tmp (.tmp .nil))))) rfl ?_
        exact ⟨by first | rfl | (simp; done) | (simp [*]; done), by repeat (first | exact Drawn0.refl _ | apply Drawn0.step)⟩
      · rw [if_neg c4] at H
        have c4b0 : (a0 == 5) = false := beq_eq_false_iff_ne.mpr c4
        have c4b1 : (a0 != 5) = true := bne_iff_ne.mpr c4
        by_cases c5 : a0 = 6
        · rw [if_pos c5] at H
          have c5b0 : (a0 == 6) = true := beq_iff_eq.mpr c5
          have c5b1 : (a0 != 6) = false := bne_eq_false_iff_eq.mpr c5
          clear c5
          simp only [Option.some.injEq, Prod.mk.injEq] at H
          obtain ⟨rfl, rfl, rfl, rfl⟩ := H
          go_enter Tryd.func25, Tryd.ntmps25
          go_wp2
          refine bodyPost_ret (results_list (rs := [.tmp 2, .tmp 3, .tmp 4, .tmp 5]) rfl (by simp) (.tmp (.tmp (.tmp (.tmp .nil))))) rfl ?_
          exact ⟨by first | rfl | (simp; done) | (simp [*]; done), by repeat (first | exact Drawn0.refl _ | apply Drawn0.step)⟩
        · rw [if_neg c5] at H
          have c5b0 : (a0 == 6) = false := beq_eq_false_iff_ne.mpr c5
          have c5b1 : (a0 != 6) = true := bne_iff_ne.mpr c5
          simp only [Option.some.injEq, Prod.mk.injEq] at H
          obtain ⟨rfl, rfl, rfl, rfl⟩ := H
          go_enter Tryd.func25, Tryd.ntmps25
          go_wp2
          refine bodyPost_ret (results_list (rs := [.tmp 2, .tmp 3, .tmp 4, .tmp 5]) rfl (by simp) (.tmp (.tmp (.tmp (.tmp .nil))))) rfl ?_
          exact ⟨by first | rfl | (simp; done) | (simp [*]; done), by repeat (first | exact Drawn0.refl _ | apply Drawn0.step)⟩
    · rw [if_neg c3] at H
      have c3b0 : (a0 == 3) = false := beq_eq_false_iff_ne.mpr c3
      have c3b1 : (a0 != 3) = true := bne_iff_ne.mpr c3
      by_cases c6 : a0 = 4
      · rw [if_pos c6] at H
        have c6b0 : (a0 == 4) = true := beq_iff_eq.mpr c6
        have c6b1 : (a0 != 4) = false := bne_eq_false_iff_eq.mpr c6
        clear c6
        by_cases c7 : a0 = 5
        · rw [if_pos c7] at H
          have c7b0 : (a0 == 5) = true := beq_iff_eq.mpr c7
          have c7b1 : (a0 != 5) = false := bne_eq_false_iff_eq.mpr c7
          clear c7
          simp only [Option.some.injEq, Prod.mk.injEq] at H
          obtain ⟨rfl, rfl, rfl, rfl⟩ := H
          go_enter Tryd.func25, Tryd.ntmps25
          go_wp2
          refine bodyPost_ret (results_list (rs := [.tmp 2, .tmp 3, .tmp 4, .tmp 5]) rfl (by simp) (.tmp (.tmp (.tmp (.tmp .nil))))) rfl ?_
          exact ⟨by first | rfl | (simp; done) | (simp [*]; done), by repeat (first | exact Drawn0.refl _ | apply Drawn0.step)⟩
        · rw [if_neg c7] at H
          have c7b0 : (a0 == 5) = false := beq_eq_false_iff_ne.mpr c7
          have c7b1 : (a0 != 5) = true := bne_iff_ne.mpr c7
          by_cases c8 : a0 = 6
          · rw [if_pos c8] at H
            have c8b0 : (a0 == 6) = true := beq_iff_eq.mpr c8
            have c8b1 : (a0 != 6) = false := bne_eq_false_iff_eq.mpr c8
            clear c8
            simp only [Option.some.injEq, Prod.mk.injEq] at H
            obtain ⟨rfl, rfl, rfl, rfl⟩ := H
            go_enter Tryd.func25, Tryd.ntmps25
            go_wp2
            refine bodyPost_ret (results_list (rs := [.tmp 2, .tmp 3, .tmp 4, .tmp 5]) rfl (by simp) (.tmp (.tmp (.tmp (.tmp .nil))))) rfl ?_
            exact ⟨by first | rfl | (simp; done) | (simp [*]; done), by repeat (first | exact Drawn0.refl _ | apply Drawn0.step)⟩
          · rw [if_neg c8] at H
            have c8b0 : (a0 == 6) = false := beq_eq_false_iff_ne.mpr c8
            have c8b1 : (a0 != 6) = true := bne_iff_ne.mpr c8
            simp only [Option.some.injEq, Prod.mk.injEq] at H
            obtain ⟨rfl, rfl, rfl, rfl⟩ := H
            go_enter Tryd.func25, Tryd.ntmps25
            go_wp2
            refine bodyPost_ret (results_list (rs := [.tmp 2, .tmp 3, .tmp 4, .tmp 5]) rfl (by simp) (.tmp (.tmp (.tmp (.tmp .nil))))) rfl ?_
            exact ⟨by first | rfl | (simp; done) | (simp [*]; done), by repeat (first | exact Drawn0.refl _ | apply Drawn0.step)⟩
      · rw [if_neg c6] at H
        have c6b0 : (a0 == 4) = false := beq_eq_false_iff_ne.mpr c6
        have c6b1 : (a0 != 4) = true := bne_iff_ne.mpr c6
        by_cases c9 : a0 = 5
        · rw [if_pos c9] at H
          have c9b0 : (a0 == 5) = true := beq_iff_eq.mpr c9
          have c9b1 : (a0 != 5) = false := bne_eq_false_iff_eq.mpr c9
          clear c9
          simp only [Option.some.injEq, Prod.mk.injEq] at H
          obtain ⟨rfl, rfl, rfl, rfl⟩ := H
          go_enter Tryd.func25, Tryd.ntmps25
          go_wp2
          refine bodyPost_ret (results_list (rs := [.tmp 2, .tmp 3, .tmp 4, .tmp 5]) rfl (by simp) (.tmp (.tmp (.tmp (.tmp .nil))))) rfl ?_
          exact ⟨by first | rfl | (simp; done) | (simp [*]; done), by repeat (first | exact Drawn0.refl _ | apply Drawn0.step)⟩
        · rw [if_neg c9] at H
          have c9b0 : (a0 == 5) = false := beq_eq_false_iff_ne.mpr c9
          have c9b1 : (a0 != 5) = true := bne_iff_ne.mpr c9
          by_cases c10 : a0 = 6
          · rw [if_pos c10] at H
            have c10b0 : (a0 == 6) = true := beq_iff_eq.mpr c10
            have c10b1 : (a0 != 6) = false := bne_eq_false_iff_eq.mpr c10
            clear c10
            simp only [Option.some.injEq, Prod.mk.injEq] at H
            obtain ⟨rfl, rfl, rfl, rfl⟩ := H
            go_enter Tryd.func25, Tryd.ntmps25
            go_wp2
            refine bodyPost_ret (results_list (rs := [.tmp 2, .tmp 3, .tmp 4, .tmp 5]) rfl (by simp) (.tmp (.tmp (.tmp (.tmp .nil))))) rfl ?_
            exact ⟨by first | rfl | (simp; done) | (simp [*]; done), by repeat (first | exact Drawn0.refl _ | apply Drawn0.step)⟩
          · rw [if_neg c10] at H
            have c10b0 : (a0 == 6) = false := beq_eq_false_iff_ne.mpr c10
            have c10b1 : (a0 != 6) = true := bne_iff_ne.mpr c10
            simp only [Option.some.injEq, Prod.mk.injEq] at H
            obtain ⟨rfl, rfl, rfl, rfl⟩ := H
            go_enter Tryd.func25, Tryd.ntmps25
            go_wp2
            refine bodyPost_ret (results_list (rs := [.tmp 2, .tmp 3, .tmp 4, .tmp 5]) rfl (by simp) (.tmp (.tmp (.tmp (.tmp .nil))))) rfl ?_
            exact ⟨by first | rfl | (simp; done) | (simp [*]; done), by repeat (first | exact Drawn0.refl _ | apply Drawn0.step)⟩
  · rw [if_neg c2] at H
    have c2b0 : decide (2 ≤ a0) = false := decide_eq_false c2
    clear c2
    by_cases c11 : a0 = 3
    · rw [if_pos c11] at H
      have c11b0 : (a0 == 3) = true := beq_iff_eq.mpr c11
      have c11b1 : (a0 != 3) = false := bne_eq_false_iff_eq.mpr c11
      clear c11
      by_cases c12 : a0 = 5
      · rw [if_pos c12] at H
        have c12b0 : (a0 == 5) = true := beq_iff_eq.mpr c12
        have c12b1 : (a0 != 5) = false := bne_eq_false_iff_eq.mpr c12
        clear c12
        simp only [Option.some.injEq, Prod.mk.injEq] at H
        obtain ⟨rfl, rfl, rfl, rfl⟩ := H
        go_enter Tryd.func25, Tryd.ntmps25
        go_wp2
        refine bodyPost_ret (results_list (rs := [.tmp 2, .tmp 3, .tmp 4, .tmp 5]) rfl (by simp) (.tmp (.tmp (.tmp (.tmp .nil))))) rfl ?_
        exact ⟨by first | rfl | (simp; done) | (simp [*]; done), by repeat (first | exact Drawn0.refl _ | apply Drawn0.step)⟩
      · rw [if_neg c12] at H
        have c12b0 : (a0 == 5) = false := beq_eq_false_iff_ne.mpr c12
        have c12b1 : (a0 != 5) = true := bne_iff_ne.mpr c12
        by_cases c13 : a0 = 6
        · rw [if_pos c13] at H
          have c13b0 : (a0 == 6) = true := beq_iff_eq.mpr c13
          have c13b1 : (a0 != 6) = false := bne_eq_false_iff_eq.mpr c13
          clear c13
          simp only [Option.some.injEq, Prod.mk.injEq] at H
          obtain ⟨rfl, rfl, rfl, rfl⟩ := H
          go_enter Tryd.func25, Tryd.ntmps25
          go_wp2
          refine bodyPost_ret (results_list (rs := [.tmp 2, .tmp 3, .tmp 4, .tmp 5]) rfl (by simp) (.tmp (.tmp (.tmp (.tmp .nil))))) rfl ?_
          exact ⟨by first | rfl | (simp; done) | (simp [*]; done), by repeat (first | exact Drawn0.refl _ | apply Drawn0.step)⟩
        · rw [if_neg c13] at H
          have c13b0 : (a0 == 6) = false := beq_eq_false_iff_ne.mpr c13
          have c13b1 : (a0 != 6) = true := bne_iff_ne.mpr c13
          simp only [Option.some.injEq, Prod.mk.injEq] at H
          obtain ⟨rfl, rfl, rfl, rfl⟩ := H
          go_enter Tryd.func25, Tryd.ntmps25
          go_wp2
          refine bodyPost_ret (results_list (rs := [.tmp 2, .tmp 3, .tmp 4, .tmp 5]) rfl (by simp) (.tmp (.tmp (.tmp (.tmp .nil))))) rfl ?_
          exact ⟨by first | rfl | (simp; done) | (simp [*]; done), by repeat (first | exact Drawn0.refl _ | apply Drawn0.step)⟩
    · rw [if_neg c11] at H
      have c11b0 : (a0 == 3) = false := beq_eq_false_iff_ne.mpr c11
      have c11b1 : (a0 != 3) = true := bne_iff_ne.mpr c11
      by_cases c14 : a0 = 4
      · rw [if_pos c14] at H
        have c14b0 : (a0 == 4) = true := beq_iff_eq.mpr c14
        have c14b1 : (a0 != 4) = false := bne_eq_false_iff_eq.mpr c14
        clear c14
        by_cases c15 : a0 = 5
        · rw [if_pos c15] at H
          have c15b0 : (a0 == 5) = true := beq_iff_eq.mpr c15
          have c15b1 : (a0 != 5) = false := bne_eq_false_iff_eq.mpr c15
          clear c15
          simp only [Option.some.injEq, Prod.mk.injEq] at H
          obtain ⟨rfl, rfl, rfl, rfl⟩ := H
          go_enter Tryd.func25, Tryd.ntmps25
          go_wp2
          refine bodyPost_ret (results_list (rs := [.tmp 2, .tmp 3, .tmp 4, .tmp 5]) rfl (by simp) (.tmp (.tmp (.tmp (.tmp .nil))))) rfl ?_
          exact ⟨by first | rfl | (simp; done) | (simp [*]; done), by repeat (first | exact Drawn0.refl _ | apply Drawn0.step)⟩
        · rw [if_neg c15] at H
          have c15b0 : (a0 == 5) = false := beq_eq_false_iff_ne.mpr c15
          have c15b1 : (a0 != 5) = true := bne_iff_ne.mpr c15
          by_cases c16 : a0 = 6
          · rw [if_pos c16] at H
            have c16b0 : (a0 == 6) = true := beq_iff_eq.mpr c16
            have c16b1 : (a0 != 6) = false := bne_eq_false_iff_eq.mpr c16
            clear c16
            simp only [Option.some.injEq, Prod.mk.injEq] at H
            obtain ⟨rfl, rfl, rfl, rfl⟩ := H
            go_enter Tryd.func25, Tryd.ntmps25
            go_wp2
            refine bodyPost_ret (results_list (rs := [.tmp 2, .tmp 3, .tmp 4, .tmp 5]) rfl (by simp) (.tmp (.tmp (.tmp (.tmp .nil))))) rfl ?_
            exact ⟨by first | rfl | (simp; done) | (simp [*]; done), by repeat (first | exact Drawn0.refl _ | apply Drawn0.step)⟩
          · rw [if_neg c16] at H
            have c16b0 : (a0 == 6) = false := beq_eq_false_iff_ne.mpr c16
            have c16b1 : (a0 != 6) = true := bne_iff_ne.mpr c16
            simp only [Option.some.injEq, Prod.mk.injEq] at H
            obtain ⟨rfl, rfl, rfl, rfl⟩ := H
            go_enter Tryd.func25, Tryd.ntmps25
            go_wp2
            refine bodyPost_ret (results_list (rs := [.tmp 2, .tmp 3, .tmp 4, .tmp 5]) rfl (by simp) (.tmp (.tmp (.tmp (.tmp .nil))))) rfl ?_
            exact ⟨by first | rfl | (simp; done) | (simp [*]; done), by repeat (first | exact Drawn0.refl _ | apply Drawn0.step)⟩
      · rw [if_neg c14] at H
        have c14b0 : (a0 == 4) = false := beq_eq_false_iff_ne.mpr c14
        have c14b1 : (a0 != 4) = true := bne_iff_ne.mpr c14
        by_cases c17 : a0 = 5
        · rw [if_pos c17] at H
          have c17b0 : (a0 == 5) = true := beq_iff_eq.mpr c17
          have c17b1 : (a0 != 5) = false := bne_eq_false_iff_eq.mpr c17
          clear c17
          simp only [Option.some.injEq, Prod.mk.injEq] at H
          obtain ⟨rfl, rfl, rfl, rfl⟩ := H
          go_enter Tryd.func25, Tryd.ntmps25
          go_wp2
          refine bodyPost_ret (results_list (rs := [.tmp 2, .tmp 3, .tmp 4, .tmp 5]) rfl (by simp) (.tmp (.tmp (.tmp (.tmp .nil))))) rfl ?_
          exact ⟨by first | rfl | (simp; done) | (simp [*]; done), by repeat (first | exact Drawn0.refl _ | apply Drawn0.step)⟩
        · rw [if_neg c17] at H
          have c17b0 : (a0 == 5) = false := beq_eq_false_iff_ne.mpr c17
          have c17b1 : (a0 != 5) = true := bne_iff_ne.mpr c17
          by_cases c18 : a0 = 6
          · rw [if_pos c18] at H
            have c18b0 : (a0 == 6) = true := beq_iff_eq.mpr c18
            have c18b1 : (a0 != 6) = false := bne_eq_false_iff_eq.mpr c18
            clear c18
            simp only [Option.some.injEq, Prod.mk.injEq] at H
            obtain ⟨rfl, rfl, rfl, rfl⟩ := H
            go_enter Tryd.func25, Tryd.ntmps25
            go_wp2
            refine bodyPost_ret (results_list (rs := [.tmp 2, .tmp 3, .tmp 4, .tmp 5]) rfl (by simp) (.tmp (.tmp (.tmp (.tmp .nil))))) rfl ?_
            exact ⟨by first | rfl | (simp; done) | (simp [*]; done), by repeat (first | exact Drawn0.refl _ | apply Drawn0.step)⟩
          · rw [if_neg c18] at H
            have c18b0 : (a0 == 6) = false := beq_eq_false_iff_ne.mpr c18
            have c18b1 : (a0 != 6) = true := bne_iff_ne.mpr c18
            simp only [Option.some.injEq, Prod.mk.injEq] at H
            obtain ⟨rfl, rfl, rfl, rfl⟩ := H
            go_enter Tryd.func25, Tryd.ntmps25
            go_wp2
            refine bodyPost_ret (results_list (rs := [.tmp 2, .tmp 3, .tmp 4, .tmp 5]) rfl (by simp) (.tmp (.tmp (.tmp (.tmp .nil))))) rfl ?_
            exact ⟨by first | rfl | (simp; done) | (simp [*]; done), by repeat (first | exact Drawn0.refl _ | apply Drawn0.step)⟩

/-! ### bulkheadref02_right: function 26 -/
def bulkheadref02_right.f (a0 : Bool) (a1 : Int) : Option (Bool) := if a0 = true then (if a1 ≥ 0 then (some (decide (a1 ≤ 15))) else (some false)) else (some (a1 == 0))
set_option maxHeartbeats 8000000 in
set_option maxRecDepth 100000 in
theorem bulkheadref02_right.calls (a0 : Bool) (a1 : Int) (r : Bool) (w : World) (h : bulkheadref02_right.f a0 a1 = some r) :
    Calls Tryd.prog 26 #[.bool a0, .int .i64 a1] w fun e w' => e = .returned (.bool r) ∧ Drawn0 w w' := by
  have H : (if a0 = true then (if a1 ≥ 0 then (some (decide (a1 ≤ 15))) else (some false)) else (some (a1 == 0))) = some r := h
  clear h
  by_cases c3 : a0 = true
  · subst c3
    have H1 : (if a1 ≥ 0 then (some (decide (a1 ≤ 15))) else (some false)) = some r := by rw [if_pos rfl] at H; exact H
    clear H
    have H := H1
    clear H1
    by_cases c4 : a1 ≥ 0
    · rw [if_pos c4] at H
      have c4b0 : decide (0 ≤ a1) = true := decide_eq_true c4
      clear c4
      obtain rfl := Option.some.inj H
      go_enter Tryd.func26, Tryd.ntmps26
      go_wp2
      go_ret
      exact ⟨by first | rfl | (simp; done) | (simp [*]; done), by repeat (first | exact Drawn0.refl _ | apply Drawn0.step)⟩
    · rw [if_neg c4] at H
      have c4b0 : decide (0 ≤ a1) = false := decide_eq_false c4
      clear c4
      obtain rfl := Option.some.inj H
      go_enter Tryd.func26, Tryd.ntmps26
      go_wp2
      go_ret
      exact ⟨by first | rfl | (simp; done) | (simp [*]; done), by repeat (first | exact Drawn0.refl _ | apply Drawn0.step)⟩
  · replace c3 := Bool.eq_false_iff.mpr c3
    subst c3
    have H1 : (some (a1 == 0)) = some r := by rw [if_neg (show ¬ (false = true) by decide)] at H; exact H
    clear H
    have H := H1
    clear H1
    obtain rfl := Option.some.inj H
    go_enter Tryd.func26, Tryd.ntmps26
    go_wp2
    go_ret
    exact ⟨by first | rfl | (simp; done) | (simp [*]; done), by repeat (first | exact Drawn0.refl _ | apply Drawn0.step)⟩

end Go.Proofs.YtdoighcgfbnigaaDoor.PDecode
