import Derived.Test.YthemlddepepekaaBook
namespace Go.Proofs.Ythemlddepepekaa.Fw
open Go Go.Proofs
set_option linter.unusedVariables false
set_option linter.unusedSimpArgs false
set_option maxRecDepth 10000
theorem fa_61_0 (a : Addr) (w : World) : (Instr.fieldAt 61 (.pointer (some a)) 0).run Try.prog w = .ok (.pointer (some (a.add 0))) w := by
  simp [Instr.fieldAt, Try.runUnderlying61, Instr.sureAddr, fieldPlace, Try.sizeOf58, Sem.run_bind, Sem.run_pure]
theorem bd_111_0_1 (a0_0 : Option Addr) (n0_0 c0_0 : Nat) (a1_0 : Option Addr) (n1_0 c1_0 : Nat) (w : World) : (Instr.build 111 #[(0, .slice a0_0 n0_0 c0_0), (1, .slice a1_0 n1_0 c1_0)]).run Try.prog w = .ok (.agg #[.slice a0_0 n0_0 c0_0, .slice a1_0 n1_0 c1_0, .slice none 0 0, .slice none 0 0]) w := by kernel_rfl
set_option maxHeartbeats 4000000 in
theorem keepw_ok (w0 : World) (F : List Atom) (kb : Nat) (v0 v1 v2 v3 v4 : Value) (ka : Option Addr) (K kc : Nat) (B : Nat → BK) (hB : ∀ j, j < K → BkOk (B j)) (hK : K ≤ 1099511627776) (al aw : Option Addr) (n cl cw : Nat) (W : List Int) (hWl : W.length = n) (hn : n ≤ 1099511627776) (hb : W32s W) (hal : n = 0 ∨ ∃ g, al = some ⟨g, 0, none⟩) (hR : Reads w0 F (.slice aw n cw) n 1 (ints .u32 W)) :
    CallK Try.prog 55 [.pointer (some ⟨kb, 5, none⟩), .slice al n cl, .slice aw n cw] w0 (Blk kb (.cells [v0, v1, v2, v3, v4, .slice ka K kc, .slice none 0 0].toArray 63 (0, 0)) :: Own 111 4 (.slice ka K kc) K (rowsN K (fun j => bkR (B j))) :: BigF K (fun j => bkA (B j)) :: Own 51 1 (.slice al n cl) n (ints .u32 W) :: F) (Gives w0 fun v F2 => ∃ (B' : Nat → BK) (ka' : Option Addr) (kc' : Nat), v = .bool true ∧ (∀ j, j < K + 1 → BkOk (B' j)) ∧ (∃ g, ka' = some ⟨g, 0, none⟩) ∧ F2 = Blk kb (.cells [v0, v1, v2, v3, v4, .slice ka' (K + 1) kc', .slice none 0 0].toArray 63 (0, 0)) :: Own 111 4 (.slice ka' (K + 1) kc') (K + 1) (rowsN (K + 1) (fun j => bkR (B' j))) :: BigF (K + 1) (fun j => bkA (B' j)) :: F) := by
  refine c_enter Try.func55 rfl rfl rfl ?_
  refine g_seq ?_
  refine g_region ?_
  refine l_assign rfl rfl ?_
  refine l_nil ?_
  refine g_seq ?_
  refine g_region ?_
  refine l_assign rfl rfl ?_
  refine l_nil ?_
  refine g_seq ?_
  refine g_region ?_
  refine l_move rfl rfl ?_
  refine l_move rfl rfl ?_
  refine l_own_nil 51 1 ?_
  refine l_does rfl (does_apps 0 (by_ := 4) (kd := .u32) (V := []) (W := W) (m := 0) (m2 := n) (m3 := n) (V3 := W) Try.underlying38 Try.type51 rfl rfl rfl rfl rfl rfl rfl hR.ex (by omega) (by simp only [maxLen]; omega) (by omega) rfl (fun _ _ => rfl)) ?_
  rintro _ _ ⟨a10, c10, ha10, hn10, rfl, rfl⟩
  refine l_assign rfl rfl ?_
  refine l_nil ?_
  refine g_seq ?_
  refine g_region ?_
  refine l_move rfl rfl ?_
  refine l_move rfl rfl ?_
  refine l_nilCheck rfl rfl ?_
  refine l_fieldAddr rfl fa_61_0 rfl ?_
  refine l_ld rfl Try.isAgg58 rfl rfl ?_
  refine l_move rfl rfl ?_
  refine l_move rfl rfl ?_
  refine l_build rfl rfl (fun w => bd_111_0_1 _ _ _ _ _ _ w) ?_
  refine l_buildSlice rfl Try.underlying58 Try.sizeOf111 Try.zeroValue111 rfl rfl rfl rfl rfl rfl ?_; intro b19
  refine l_fronto b19 ?_
  refine l_frontv (.slice ka K kc) ?_
  refine l_append 0 (sz := 4) (by_ := 96) (m2 := 1) (news := [.slice al n cl, .slice a10 n c10, .slice none 0 0, .slice none 0 0]) rfl Try.underlying58 Try.type111 rfl rfl rfl rfl rfl rfl rfl rfl ⟨rfl, .inl ⟨_, _, _, rfl, .own (mem_getO 1 rfl)⟩⟩ rfl (by omega) (by simp only [maxLen]; omega) (fun _ => rfl) ?_; intro v20 hv20
  rw [show rowsN K (fun j => bkR (B j)) ++ [Value.slice al n cl, .slice a10 n c10, .slice none 0 0, .slice none 0 0] = rowsN (K + 1) (fun j => bkR (upF B K ⟨al, cl, a10, c10, n, W⟩ j)) from rowsN_push (r := bkR) (x := ⟨al, cl, a10, c10, n, W⟩)]
  refine l_fact (own_slice (mem_getO 0 rfl)) ?_
  rintro ⟨a20, c20, rfl, ha20⟩
  refine l_nilCheck rfl rfl ?_
  refine l_fieldAddr rfl fa_61_0 rfl ?_
  refine l_st Try.sizeOf58 rfl rfl rfl rfl ?_
  refine l_nil ?_
  refine g_seq ?_
  refine g_region ?_
  refine l_move rfl rfl ?_
  refine l_move rfl rfl ?_
  refine l_call rfl Try.call24 rfl (samew_ok _ _ al aw n cl cw W (own_irow (fun w hw => (hw.ok _ (by first | exact mem_getO 0 rfl | exact mem_getO 1 rfl | exact mem_getO 2 rfl | exact mem_getO 3 rfl | exact mem_getO 4 rfl | exact mem_getO 5 rfl | exact mem_getO 6 rfl | exact mem_getO 7 rfl | exact mem_getO 8 rfl | exact mem_getO 9 rfl | exact mem_getO 10 rfl | exact mem_getO 11 rfl))) hWl hal) (reads_ir hR hWl).ex hb (by omega)) ?_; rintro _ _ ⟨rfl, rfl⟩
  refine l_assign rfl rfl ?_
  refine l_nil ?_
  refine g_take (BigF K (fun j => bkA (B j))) ?_
  refine g_take (Own 51 1 (.slice a10 n c10) n (ints .u32 W)) ?_
  refine g_take (Own 51 1 (.slice al n cl) n (ints .u32 W)) ?_
  refine g_unstar ?_
  refine g_snocb (fun j => bkA (upF B K ⟨al, cl, a10, c10, n, W⟩ j)) (by simp only [upF_at]; rfl) (fun k hk => by simp only [upF_ne (show k ≠ K by omega)]) ?_
  refine g_ret Try.func55 rfl (.tmp rfl .nil) ?_
  exact Gives.mki ⟨upF B K ⟨al, cl, a10, c10, n, W⟩, a20, c20, rfl, fun j hj => by
    by_cases e : j = K
    · subst e; rw [upF_at]; exact ⟨hWl, hn, hb, hal, ha10⟩
    · rw [upF_ne e]; exact hB j (by omega), ha20.resolve_left (by omega), rfl⟩
end Go.Proofs.Ythemlddepepekaa.Fw
