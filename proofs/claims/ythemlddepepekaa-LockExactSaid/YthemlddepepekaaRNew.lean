import Derived.Test.YthemlddepepekaaRChain
import Derived.Test.YthemlddepepekaaLentI
namespace Go.Proofs.Ythemlddepepekaa.Fw
open Go Go.Proofs
set_option linter.unusedVariables false
set_option linter.unusedSimpArgs false
set_option maxRecDepth 10000
theorem bd_104_z  (w : World) : (Instr.build 104 #[]).run Try.prog w = .ok (.agg #[.slice none 0 0, .int .i64 0, .bool false, .slice none 0 0]) w := by kernel_rfl
/-- A list that is handed in: one of no entries may lie anywhere. -/
def RA (w0 : World) (F : List Atom) (kd : IntKind) (a : Option Addr) (n c : Nat) (W : List Int) : Prop := W.length = n ∧ ((n = 0 ∧ (a = none → c = 0)) ∨ ∃ b o, a = some ⟨b, o, none⟩ ∧ RowAt w0 F b o (ints kd W))
theorem RA.ir {w0 : World} {F : List Atom} {kd a n c W} (h : RA w0 F kd a n c W) : IR w0 F kd a n W := ⟨h.1, h.2.imp And.left id⟩
theorem RA.ex {w0 : World} {F0 F : List Atom} {kd a n c W} (h : RA w0 F0 kd a n c W) [e : Ext F0 F] : RA w0 F kd a n c W := ⟨h.1, h.2.imp id fun ⟨b, o, h1, h2⟩ => ⟨b, o, h1, h2.ex⟩⟩
theorem RA.of {w0 : World} {F : List Atom} {kd : IntKind} {a : Option Addr} {n c : Nat} {W : List Int} (h : Reads w0 F (.slice a n c) n 1 (ints kd W)) (hW : W.length = n) : RA w0 F kd a n c W := ⟨hW, by
  rcases h.2 with ⟨b, o, cap, hv, hr⟩ | ⟨hv, h0⟩
  · injection hv with e1 _ _
    exact .inr ⟨b, o, e1, hr⟩
  · injection hv with e1 _ e2
    exact .inl ⟨h0, fun _ => e2⟩⟩
theorem does_appa {P : Program} {w0 : World} {e : Env} {F : List Atom} {ty : TypeId} {pos : String} {aft : Array Edge} {t x y T E by_ n a2 c2 inf z v} {F1 : Option Addr → Nat → List Atom} {kd : IntKind} {W : List Int} (i : Nat) (hT : P.underlying T = some (.slice E)) (hi : P.info? E = some inf) (hz : inf.zero = some z) (hsz : inf.size = 1) (hby : inf.bytes = by_) (hzs : z.cells.size = 1)
    (hx : evO e x = some v) (hy : evO e y = some (.slice a2 n c2)) (hF : getO F i = some (Own E 1 v 0 (ints kd []))) (hu : RA w0 F kd a2 n c2 W) (hb : (0 + n) * by_ ≤ 140737488355328) (h63 : 0 + n ≤ maxLen)
    (hset : ∀ a c, setO F i (Own E 1 (.slice a n c) n (ints kd W)) = some (F1 a c)) :
    Does P w0 (.mk (some t) (.call ⟨.builtin .append, #[x, y], #[T, T]⟩) ty pos aft none) e F (fun v' F2 => ∃ a c, (n = 0 ∨ ∃ g, a = some ⟨g, 0, none⟩) ∧ (a = none → n = 0) ∧ v' = .slice a n c ∧ F2 = F1 a c) := by
  have hgo : Reads w0 F (.slice a2 n c2) n 1 (ints kd W) → Does P w0 (.mk (some t) (.call ⟨.builtin .append, #[x, y], #[T, T]⟩) ty pos aft none) e F (fun v' F2 => ∃ a c, (n = 0 ∨ ∃ g, a = some ⟨g, 0, none⟩) ∧ (a = none → n = 0) ∧ v' = .slice a n c ∧ F2 = F1 a c) := fun hr => does_apps i hT hi hz hsz hby hzs hx hy hF hr hb h63 (Nat.zero_add _) (List.nil_append _) hset
  obtain ⟨hl, ⟨h0, hc⟩ | ⟨b, o, rfl, hr⟩⟩ := hu
  · obtain rfl : W = [] := List.eq_nil_of_length_eq_zero (hl.trans h0)
    subst h0
    cases a2 with
    | none =>
      obtain rfl := hc rfl
      exact hgo ⟨rfl, .inr ⟨rfl, rfl⟩⟩
    | some ad =>
      intro ρ w ha hw
      have hlt : i < F.length := (List.getElem?_eq_some_iff.1 (getO_eq hF)).1
      have hargs : (#[x, y] : Array Operand).map ρ = [v, .slice (some ad) 0 c2].toArray := kn_args (xs := [x, y]) ha (by simp [evL, hx, hy])
      obtain ⟨l', h1', _⟩ := perm_set (a' := Own E 1 v 0 (ints kd [])) (getO_eq hF)
      obtain ⟨v', w', hr, hw', hn⟩ := run_append_atom (P := P) (ty := ty) (c := c2) (m := 0) (news := []) (a := ad) hT hi hz hsz hby hzs (by decide) (hw.perm h1') rfl (fun j u hj => by simp at hj) rfl hb h63
      obtain ⟨l2, h2, h3⟩ := perm_set (a' := Own E 1 v' 0 (ints kd [])) (getO_eq hF)
      have hw2 : Holds w0 (F.set i (Own E 1 v' 0 (ints kd []))) w' := (hw'.perm ((((h1'.symm.trans h2).cons_inv).cons _))).perm h3.symm
      obtain ⟨a, c, rfl, h1, h4⟩ := slice_of_own (List.mem_set hlt _) hw2
      refine .inl ⟨_, w', F1 a c, .inl (run_builtin ρ hargs (by simp only [builtin]; exact run_value hr)), ?_, a, c, h1, h4, rfl, rfl⟩
      rw [(setO_eq (hset a c)).2]
      exact hw2
  · exact hgo ⟨by rw [ints_length, hl, Nat.mul_one], .inl ⟨b, o, c2, rfl, hr⟩⟩
theorem rnew_ok (w0 : World) (F : List Atom) (a : Option Addr) (c : Nat) (X : List Int) (hR : RA w0 F .i64 a X.length c X) (hn : X.length ≤ 2147483647) :
    CallK Try.prog 50 [.slice a X.length c] w0 (F) (Gives w0 fun v F2 => ∃ b al cl, v = .pointer (some ⟨b, 0, none⟩) ∧ (X.length = 0 ∨ ∃ g, al = some ⟨g, 0, none⟩) ∧ F2 = Blk b (.cells [Value.slice al X.length cl, .int .i64 0, .bool false, .slice none 0 0].toArray 104 (0, 0)) :: Own 3 1 (.slice al X.length cl) X.length (ints .i64 X) :: Own 51 1 (.slice none 0 0) 0 (ints .u32 ([] : List Int)) :: F) := by
  refine c_enter Try.func50 rfl rfl rfl ?_
  refine g_seq ?_
  refine g_region ?_
  refine l_assign rfl rfl ?_
  refine l_nil ?_
  refine g_seq ?_
  refine g_region ?_
  refine l_build rfl rfl (fun w => bd_104_z w) ?_
  refine l_boxs rfl rfl ?_; intro b5
  refine l_assign rfl rfl ?_
  refine l_nil ?_
  refine g_seq ?_
  refine g_region ?_
  refine l_move rfl rfl ?_
  refine l_move rfl rfl ?_
  refine l_nilCheck rfl rfl ?_
  refine l_fieldAddr rfl fa_104_0 rfl ?_
  refine l_ld rfl Try.isAgg23 rfl rfl ?_
  refine l_move rfl rfl ?_
  refine l_own_nil 3 1 ?_
  refine l_does rfl (does_appa 0 (by_ := 8) (kd := .i64) (W := X) Try.underlying23 Try.type3 rfl rfl rfl rfl rfl rfl rfl hR.ex (by omega) (by simp only [maxLen]; omega) (fun _ _ => rfl)) ?_
  rintro _ _ ⟨a12, c12, ha12, hn12, rfl, rfl⟩
  refine l_nilCheck rfl rfl ?_
  refine l_fieldAddr rfl fa_104_0 rfl ?_
  refine l_st Try.sizeOf23 rfl rfl rfl rfl ?_
  refine l_nil ?_
  refine g_seq ?_
  refine g_region ?_
  refine l_move rfl rfl ?_
  refine l_assign rfl rfl ?_
  refine l_nil ?_
  refine g_wnil 51 .u32 ?_
  refine g_ret Try.func50 rfl (.tmp rfl .nil) ?_
  exact Gives.mki ⟨b5, a12, c12, rfl, ha12, rfl⟩
theorem lnew_r (w0 : World) (F : List Atom) (g0 o0 c : Nat) (X : List Int) (hr0 : RowAt w0 F g0 o0 (ints .i64 X)) (hn : X.length ≤ 2147483647) :
    CallK Try.prog 8 [.slice (some ⟨g0, o0, none⟩) X.length c] w0 (F) (Gives w0 fun v F2 => ∃ b al cl, v = .pointer (some ⟨b, 0, none⟩) ∧ (X.length = 0 ∨ ∃ g, al = some ⟨g, 0, none⟩) ∧ F2 = Blk b (.cells [Value.slice al X.length cl, .int .i64 0, .bool false, .slice none 0 0].toArray 84 (0, 0)) :: Own 3 1 (.slice al X.length cl) X.length (ints .i64 X) :: Own 51 1 (.slice none 0 0) 0 (ints .u32 ([] : List Int)) :: F) := by
  refine c_enter Try.func8 rfl rfl rfl ?_
  refine g_seq ?_
  refine g_region ?_
  refine l_assign rfl rfl ?_
  refine l_nil ?_
  refine g_seq ?_
  refine g_region ?_
  refine l_move rfl rfl ?_
  refine l_call rfl Try.call31 rfl (clonei_some _ _ g0 o0 X.length c X rfl (by omega) hr0.ex) ?_; rintro _ _ ⟨gl, cl, rfl, rfl⟩
  refine l_build rfl rfl (fun w => bd_84_0 _ _ _ w) ?_
  refine l_boxs rfl rfl ?_; intro b6
  refine l_assign rfl rfl ?_
  refine l_nil ?_
  refine g_wnil 51 .u32 ?_
  refine g_ret Try.func8 rfl (.tmp rfl .nil) ?_
  exact Gives.mki ⟨b6, some ⟨gl, 0, none⟩, cl, rfl, .inr ⟨_, rfl⟩, rfl⟩
set_option maxHeartbeats 4000000 in
theorem rrest_t (w0 : World) (F : List Atom) (a : Option Addr) (c : Nat) (X : List Int) (hR : RA w0 F .i64 a X.length c X) (hn : X.length ≤ 2147483647) (h : Int) (hb0 : -9223372036854775808 ≤ h) (hb1 : h ≤ 9223372036854775807) (a2 : Option Addr) (nt c2 : Nat) (T : List Int) (hR2 : RA w0 F .u32 a2 nt c2 T) (hnt : nt ≤ 2147483647) (hok : 0 ≤ h ∧ h < X.length ∧ (nt : Int) = h + 1) :
    CallK Try.prog 51 [.slice a X.length c, .int .i64 h, .bool true, .slice a2 nt c2] w0 (F) (Gives w0 fun v F2 => ∃ b al cl tt ct, v = .tuple #[.pointer (some ⟨b, 0, none⟩), .int .i64 0] ∧ (X.length = 0 ∨ ∃ g, al = some ⟨g, 0, none⟩) ∧ (nt = 0 ∨ ∃ g, tt = some ⟨g, 0, none⟩) ∧ F2 = Blk b (.cells [Value.slice al X.length cl, .int .i64 h, .bool true, .slice tt nt ct].toArray 104 (0, 0)) :: Own 3 1 (.slice al X.length cl) X.length (ints .i64 X) :: Own 51 1 (.slice tt nt ct) nt (ints .u32 T) :: F) := by
  refine c_enter Try.func51 rfl rfl rfl ?_
  refine g_seq ?_
  refine g_region ?_
  refine l_assign rfl rfl ?_
  refine l_assign rfl rfl ?_
  refine l_nil ?_
  refine g_seq ?_
  refine g_seq ?_
  refine g_region ?_
  refine l_move rfl rfl ?_
  refine l_lss rfl rfl rfl ?_
  refine l_move rfl rfl ?_
  refine l_split 14 rfl ?_ ?_
  · intro hbr
    have hbr := of_decide_eq_true hbr
    (exfalso; first | omega | (simp at hbr; done))
  intro hbr
  have hbr := of_decide_eq_false hbr
  refine l_guard_yes rfl rfl ?_
  refine l_move rfl rfl ?_
  refine l_guard_yes rfl rfl ?_
  refine l_move rfl rfl ?_
  refine l_guard_yes rfl rfl ?_
  refine l_len rfl Try.underlying23 rfl ?_
  refine l_guard_yes rfl rfl ?_
  refine l_gtr rfl rfl rfl ?_
  refine l_pick_f rfl rfl rfl ?_
  refine l_move rfl rfl ?_
  refine l_split 20 rfl ?_ ?_
  · intro hbr
    have hbr := of_decide_eq_true hbr
    (exfalso; first | omega | (simp at hbr; done))
  intro hbr
  have hbr := of_decide_eq_false hbr
  refine l_guard_yes rfl rfl ?_
  refine l_move rfl rfl ?_
  refine l_guard_yes rfl rfl ?_
  refine l_move rfl rfl ?_
  refine l_split 22 rfl ?_ ?_
  · intro hbr
    have hb22 := hbr
    refine l_guard_yes rfl rfl ?_
    refine l_move rfl rfl ?_
    refine l_guard_yes rfl rfl ?_
    refine l_move rfl rfl ?_
    refine l_guard_yes rfl rfl ?_
    refine l_len rfl Try.underlying23 rfl ?_
    refine l_guard_yes rfl rfl ?_
    refine l_eql rfl rfl rfl ?_
    refine l_guard_yes rfl rfl ?_
    refine l_pick_t rfl rfl rfl ?_
    refine l_pick_f rfl rfl rfl ?_
    refine l_nil ?_
    refine g_cond rfl ?_ ?_
    · intro hbr
      have hbr := of_decide_eq_true hbr
      (exfalso; first | omega | (simp at hbr; done))
    intro hbr
    have hbr := of_decide_eq_false hbr
    refine g_skip ?_
    refine g_seq ?_
    refine g_region ?_
    refine l_move rfl rfl ?_
    refine l_assign rfl rfl ?_
    refine l_nil ?_
    refine g_seq ?_
    refine g_seq ?_
    refine g_region ?_
    refine l_move rfl rfl ?_
    refine l_nil ?_
    refine g_cond rfl ?_ ?_
    · intro hbr
      have hb30 := hbr
      refine g_region ?_
      refine l_move rfl rfl ?_
      first | refine l_add rfl rfl rfl (w_i64 (by omega) (by omega)) ?_ | refine l_addw rfl rfl rfl ?_
      refine l_assign rfl rfl ?_
      refine l_nil ?_
      refine g_seq ?_
      refine g_seq ?_
      refine g_region ?_
      refine l_move rfl rfl ?_
      refine l_len rfl Try.underlying38 rfl ?_
      refine l_move rfl rfl ?_
      refine l_neq rfl rfl rfl ?_
      refine l_nil ?_
      refine g_cond rfl ?_ ?_
      · intro hbr
        have hbr := of_decide_eq_true hbr
        (exfalso; first | omega | (simp at hbr; done))
      intro hbr
      have hbr := of_decide_eq_false hbr
      refine g_skip ?_
      refine g_seq ?_
      refine g_region ?_
      refine l_move rfl rfl ?_
      refine l_call rfl Try.call50 rfl (rnew_ok _ _ a c X hR.ex hn) ?_; rintro _ _ ⟨b, al, cl, rfl, hal, rfl⟩
      refine l_assign rfl rfl ?_
      refine l_nil ?_
      refine g_seq ?_
      refine g_region ?_
      refine l_move rfl rfl ?_
      refine l_move rfl rfl ?_
      refine l_nilCheck rfl rfl ?_
      refine l_fieldAddr rfl fa_104_1 rfl ?_
      first | refine l_st Try.sizeOf3 rfl rfl rfl rfl ?_ | refine l_stw Try.sizeOf3 rfl rfl (by omega) ?_
      refine l_nil ?_
      refine g_seq ?_
      refine g_region ?_
      refine l_move rfl rfl ?_
      refine l_move rfl rfl ?_
      refine l_nilCheck rfl rfl ?_
      refine l_fieldAddr rfl fa_104_2 rfl ?_
      refine l_st Try.sizeOf4 rfl rfl rfl rfl ?_
      refine l_nil ?_
      refine g_seq ?_
      refine g_region ?_
      refine l_move rfl rfl ?_
      refine l_move rfl rfl ?_
      refine l_nilCheck rfl rfl ?_
      refine l_fieldAddr rfl fa_104_3 rfl ?_
      refine l_ld rfl Try.isAgg38 rfl rfl ?_
      refine l_move rfl rfl ?_
      refine l_own_nil 51 1 ?_
      refine l_does rfl (does_appa 0 (by_ := 4) (kd := .u32) (W := T) Try.underlying38 Try.type51 rfl rfl rfl rfl rfl rfl rfl hR2.ex (by omega) (by simp only [maxLen]; omega) (fun _ _ => rfl)) ?_
      rintro _ _ ⟨a53, c53, ha53, hn53, rfl, rfl⟩
      refine l_nilCheck rfl rfl ?_
      refine l_fieldAddr rfl fa_104_3 rfl ?_
      refine l_st Try.sizeOf38 rfl rfl rfl rfl ?_
      refine l_nil ?_
      refine g_seq ?_
      refine g_region ?_
      refine l_move rfl rfl ?_
      refine l_assign rfl rfl ?_
      refine l_assign rfl rfl ?_
      refine l_nil ?_
      refine g_ret Try.func51 rfl (.tmp rfl (.tmp rfl .nil)) ?_
      exact Gives.mki ⟨b, al, cl, a53, c53, rfl, hal, ha53, rfl⟩
    · intro hbr
      first | (exfalso; simp at hbr; done) | (exfalso; simp at hbr; omega) | (exfalso; first | omega | (simp at hbr; done))
  · intro hbr
    first | (exfalso; simp at hbr; done) | (exfalso; simp at hbr; omega) | (exfalso; first | omega | (simp at hbr; done))
set_option maxHeartbeats 4000000 in
theorem rrno_t (w0 : World) (F : List Atom) (a : Option Addr) (c : Nat) (X : List Int) (hR : RA w0 F .i64 a X.length c X) (hn : X.length ≤ 2147483647) (h : Int) (hb0 : -9223372036854775808 ≤ h) (hb1 : h ≤ 9223372036854775807) (a2 : Option Addr) (nt c2 : Nat) (T : List Int) (hR2 : RA w0 F .u32 a2 nt c2 T) (hnt : nt ≤ 2147483647) (hno : h < 0 ∨ (X.length : Int) ≤ h ∨ (nt : Int) ≠ h + 1) :
    CallK Try.prog 51 [.slice a X.length c, .int .i64 h, .bool true, .slice a2 nt c2] w0 (F) (Gives w0 fun v F2 => v = .tuple #[.pointer none, .int .i64 1] ∧ F2 = F) := by
  refine c_enter Try.func51 rfl rfl rfl ?_
  refine g_seq ?_
  refine g_region ?_
  refine l_assign rfl rfl ?_
  refine l_assign rfl rfl ?_
  refine l_nil ?_
  refine g_seq ?_
  refine g_seq ?_
  refine g_region ?_
  refine l_move rfl rfl ?_
  refine l_lss rfl rfl rfl ?_
  refine l_move rfl rfl ?_
  refine l_split 14 rfl ?_ ?_
  · intro hbr
    have hbr := of_decide_eq_true hbr
    refine l_guard_no rfl rfl rfl ?_
    refine l_guard_no rfl rfl rfl ?_
    refine l_guard_no rfl rfl rfl ?_
    refine l_guard_no rfl rfl rfl ?_
    refine l_pick_t rfl rfl rfl ?_
    refine l_move rfl rfl ?_
    refine l_guard_no rfl rfl rfl ?_
    refine l_guard_no rfl rfl rfl ?_
    refine l_guard_nou rfl rfl rfl ?_
    refine l_guard_nou rfl rfl rfl ?_
    refine l_guard_nou rfl rfl rfl ?_
    refine l_guard_nou rfl rfl rfl ?_
    refine l_guard_no rfl rfl rfl ?_
    refine l_pick_t rfl rfl rfl ?_
    refine l_nil ?_
    first | refine g_cond_t rfl ?_ | refine g_cond_t (congrArg (fun b => some (Value.bool b)) (decide_eq_true hbr)) ?_
    refine g_seq ?_
    refine g_region ?_
    refine l_assign rfl rfl ?_
    refine l_assign rfl rfl ?_
    refine l_nil ?_
    refine g_ret Try.func51 rfl (.tmp rfl (.tmp rfl .nil)) ?_
    exact Gives.mki ⟨rfl, rfl⟩
  intro hbr
  have hbr := of_decide_eq_false hbr
  refine l_guard_yes rfl rfl ?_
  refine l_move rfl rfl ?_
  refine l_guard_yes rfl rfl ?_
  refine l_move rfl rfl ?_
  refine l_guard_yes rfl rfl ?_
  refine l_len rfl Try.underlying23 rfl ?_
  refine l_guard_yes rfl rfl ?_
  refine l_gtr rfl rfl rfl ?_
  refine l_pick_f rfl rfl rfl ?_
  refine l_move rfl rfl ?_
  refine l_split 20 rfl ?_ ?_
  · intro hbr
    have hbr := of_decide_eq_true hbr
    refine l_guard_no rfl rfl rfl ?_
    refine l_guard_no rfl rfl rfl ?_
    refine l_guard_nou rfl rfl rfl ?_
    refine l_guard_nou rfl rfl rfl ?_
    refine l_guard_nou rfl rfl rfl ?_
    refine l_guard_nou rfl rfl rfl ?_
    refine l_guard_no rfl rfl rfl ?_
    refine l_pick_t rfl rfl rfl ?_
    refine l_nil ?_
    first | refine g_cond_t rfl ?_ | refine g_cond_t (congrArg (fun b => some (Value.bool b)) (decide_eq_true hbr)) ?_
    refine g_seq ?_
    refine g_region ?_
    refine l_assign rfl rfl ?_
    refine l_assign rfl rfl ?_
    refine l_nil ?_
    refine g_ret Try.func51 rfl (.tmp rfl (.tmp rfl .nil)) ?_
    exact Gives.mki ⟨rfl, rfl⟩
  intro hbr
  have hbr := of_decide_eq_false hbr
  refine l_guard_yes rfl rfl ?_
  refine l_move rfl rfl ?_
  refine l_guard_yes rfl rfl ?_
  refine l_move rfl rfl ?_
  refine l_split 22 rfl ?_ ?_
  · intro hbr
    have hb22 := hbr
    refine l_guard_yes rfl rfl ?_
    refine l_move rfl rfl ?_
    refine l_guard_yes rfl rfl ?_
    refine l_move rfl rfl ?_
    refine l_guard_yes rfl rfl ?_
    refine l_len rfl Try.underlying23 rfl ?_
    refine l_guard_yes rfl rfl ?_
    refine l_eql rfl rfl rfl ?_
    refine l_guard_yes rfl rfl ?_
    refine l_pick_t rfl rfl rfl ?_
    refine l_pick_f rfl rfl rfl ?_
    refine l_nil ?_
    refine g_cond rfl ?_ ?_
    · intro hbr
      have hbr := of_decide_eq_true hbr
      refine g_seq ?_
      refine g_region ?_
      refine l_assign rfl rfl ?_
      refine l_assign rfl rfl ?_
      refine l_nil ?_
      refine g_ret Try.func51 rfl (.tmp rfl (.tmp rfl .nil)) ?_
      exact Gives.mki ⟨rfl, rfl⟩
    intro hbr
    have hbr := of_decide_eq_false hbr
    refine g_skip ?_
    refine g_seq ?_
    refine g_region ?_
    refine l_move rfl rfl ?_
    refine l_assign rfl rfl ?_
    refine l_nil ?_
    refine g_seq ?_
    refine g_seq ?_
    refine g_region ?_
    refine l_move rfl rfl ?_
    refine l_nil ?_
    refine g_cond rfl ?_ ?_
    · intro hbr
      have hb30 := hbr
      refine g_region ?_
      refine l_move rfl rfl ?_
      first | refine l_add rfl rfl rfl (w_i64 (by omega) (by omega)) ?_ | refine l_addw rfl rfl rfl ?_
      refine l_assign rfl rfl ?_
      refine l_nil ?_
      refine g_seq ?_
      refine g_seq ?_
      refine g_region ?_
      refine l_move rfl rfl ?_
      refine l_len rfl Try.underlying38 rfl ?_
      refine l_move rfl rfl ?_
      refine l_neq rfl rfl rfl ?_
      refine l_nil ?_
      refine g_cond rfl ?_ ?_
      · intro hbr
        have hbr := of_decide_eq_true hbr
        refine g_seq ?_
        refine g_region ?_
        refine l_assign rfl rfl ?_
        refine l_assign rfl rfl ?_
        refine l_nil ?_
        refine g_ret Try.func51 rfl (.tmp rfl (.tmp rfl .nil)) ?_
        exact Gives.mki ⟨rfl, rfl⟩
      · intro hbr
        have hbr := of_decide_eq_false hbr
        (exfalso; first | omega | (simp at hbr; done))
    · intro hbr
      first | (exfalso; simp at hbr; done) | (exfalso; simp at hbr; omega) | (exfalso; first | omega | (simp at hbr; done))
  · intro hbr
    first | (exfalso; simp at hbr; done) | (exfalso; simp at hbr; omega) | (exfalso; first | omega | (simp at hbr; done))
set_option maxHeartbeats 4000000 in
theorem lrest_t (w0 : World) (F : List Atom) (g0 o0 c : Nat) (X : List Int) (hr0 : RowAt w0 F g0 o0 (ints .i64 X)) (hn : X.length ≤ 2147483647) (h : Int) (hb0 : -9223372036854775808 ≤ h) (hb1 : h ≤ 9223372036854775807) (g1 o1 nt c2 : Nat) (T : List Int) (hT : T.length = nt) (hr1 : RowAt w0 F g1 o1 (ints .u32 T)) (hnt : nt ≤ 2147483647) (hok : 0 ≤ h ∧ h < X.length ∧ (nt : Int) = h + 1) :
    CallK Try.prog 28 [.slice (some ⟨g0, o0, none⟩) X.length c, .int .i64 h, .bool true, .slice (some ⟨g1, o1, none⟩) nt c2] w0 (F) (Gives w0 fun v F2 => ∃ b al cl tt ct, v = .tuple #[.pointer (some ⟨b, 0, none⟩), .int .i64 0] ∧ (X.length = 0 ∨ ∃ g, al = some ⟨g, 0, none⟩) ∧ (nt = 0 ∨ ∃ g, tt = some ⟨g, 0, none⟩) ∧ F2 = Blk b (.cells [Value.slice al X.length cl, .int .i64 h, .bool true, .slice tt nt ct].toArray 84 (0, 0)) :: Own 3 1 (.slice al X.length cl) X.length (ints .i64 X) :: Own 51 1 (.slice tt nt ct) nt (ints .u32 T) :: F) := by
  refine c_enter Try.func28 rfl rfl rfl ?_
  refine g_seq ?_
  refine g_region ?_
  refine l_assign rfl rfl ?_
  refine l_assign rfl rfl ?_
  refine l_nil ?_
  refine g_seq ?_
  refine g_region ?_
  refine l_move rfl rfl ?_
  refine l_assign rfl rfl ?_
  refine l_nil ?_
  refine g_seq ?_
  refine g_seq ?_
  refine g_region ?_
  refine l_move rfl rfl ?_
  refine l_nil ?_
  refine g_cond rfl ?_ ?_
  · intro hbr
    have hb12 := hbr
    refine g_region ?_
    refine l_move rfl rfl ?_
    refine l_addw rfl rfl rfl ?_
    obtain ⟨u9, hu9⟩ : ∃ u, IntKind.i64.wrap (h + 1) = u := ⟨_, rfl⟩
    rw [hu9]
    rw [IntKind.wrap_i64] at hu9
    have hu8 : (h < 9223372036854775807 → u9 = h + 1) ∧ (h = 9223372036854775807 → u9 = -9223372036854775808) := by constructor <;> intro h7 <;> omega
    clear hu9
    refine l_assign rfl rfl ?_
    refine l_nil ?_
    refine g_seq ?_
    refine g_seq ?_
    refine g_region ?_
    refine l_move rfl rfl ?_
    refine l_lss rfl rfl rfl ?_
    refine l_move rfl rfl ?_
    refine l_split 17 rfl ?_ ?_
    · intro hbr
      have hbr := of_decide_eq_true hbr
      (exfalso; first | omega | (simp at hbr; done))
    intro hbr
    have hbr := of_decide_eq_false hbr
    refine l_guard_yes rfl rfl ?_
    refine l_move rfl rfl ?_
    refine l_guard_yes rfl rfl ?_
    refine l_move rfl rfl ?_
    refine l_guard_yes rfl rfl ?_
    refine l_len rfl Try.underlying23 rfl ?_
    refine l_guard_yes rfl rfl ?_
    refine l_gtr rfl rfl rfl ?_
    refine l_pick_f rfl rfl rfl ?_
    refine l_move rfl rfl ?_
    refine l_split 23 rfl ?_ ?_
    · intro hbr
      have hbr := of_decide_eq_true hbr
      (exfalso; first | omega | (simp at hbr; done))
    intro hbr
    have hbr := of_decide_eq_false hbr
    refine l_guard_yes rfl rfl ?_
    refine l_move rfl rfl ?_
    refine l_guard_yes rfl rfl ?_
    refine l_move rfl rfl ?_
    refine l_split 25 rfl ?_ ?_
    · intro hbr
      have hb25 := hbr
      refine l_guard_yes rfl rfl ?_
      refine l_move rfl rfl ?_
      refine l_guard_yes rfl rfl ?_
      refine l_move rfl rfl ?_
      refine l_guard_yes rfl rfl ?_
      refine l_len rfl Try.underlying23 rfl ?_
      refine l_guard_yes rfl rfl ?_
      refine l_eql rfl rfl rfl ?_
      refine l_guard_yes rfl rfl ?_
      refine l_pick_t rfl rfl rfl ?_
      refine l_pick_f rfl rfl rfl ?_
      refine l_move rfl rfl ?_
      refine l_split 32 rfl ?_ ?_
      · intro hbr
        have hbr := of_decide_eq_true hbr
        (exfalso; first | omega | (simp at hbr; done))
      intro hbr
      have hbr := of_decide_eq_false hbr
      refine l_guard_yes rfl rfl ?_
      refine l_move rfl rfl ?_
      refine l_guard_yes rfl rfl ?_
      refine l_len rfl Try.underlying38 rfl ?_
      refine l_guard_yes rfl rfl ?_
      refine l_move rfl rfl ?_
      refine l_guard_yes rfl rfl ?_
      refine l_neq rfl rfl rfl ?_
      refine l_pick_f rfl rfl rfl ?_
      refine l_nil ?_
      refine g_cond rfl ?_ ?_
      · intro hbr
        have hbr := of_decide_eq_true hbr
        (exfalso; first | omega | (simp at hbr; done))
      intro hbr
      have hbr := of_decide_eq_false hbr
      refine g_skip ?_
      refine g_seq ?_
      refine g_region ?_
      refine l_move rfl rfl ?_
      refine l_call rfl Try.call31 rfl (clonei_some _ _ g0 o0 X.length c X rfl (by omega) hr0.ex) ?_; rintro _ _ ⟨gl, cl, rfl, rfl⟩
      refine l_move rfl rfl ?_
      refine l_move rfl rfl ?_
      refine l_move rfl rfl ?_
      refine l_call rfl Try.call35 rfl (cloneu_some _ _ g1 o1 nt c2 T hT (by omega) hr1.ex) ?_; rintro _ _ ⟨gt, ct, rfl, rfl⟩
      refine l_build rfl rfl (fun w => bd_84_0_1_2_3 _ _ _ _ _ _ _ _ w) ?_
      refine l_boxs rfl rfl ?_; intro b45
      refine l_assign rfl rfl ?_
      refine l_assign rfl rfl ?_
      refine l_nil ?_
      refine g_ret Try.func28 rfl (.tmp rfl (.tmp rfl .nil)) ?_
      exact Gives.mki ⟨b45, some ⟨gl, 0, none⟩, cl, some ⟨gt, 0, none⟩, ct, rfl, .inr ⟨_, rfl⟩, .inr ⟨_, rfl⟩, rfl⟩
    · intro hbr
      first | (exfalso; simp at hbr; done) | (exfalso; simp at hbr; omega) | (exfalso; first | omega | (simp at hbr; done))
  · intro hbr
    first | (exfalso; simp at hbr; done) | (exfalso; simp at hbr; omega) | (exfalso; first | omega | (simp at hbr; done))
set_option maxHeartbeats 4000000 in
theorem lrno_t (w0 : World) (F : List Atom) (g0 o0 c : Nat) (X : List Int) (hr0 : RowAt w0 F g0 o0 (ints .i64 X)) (hn : X.length ≤ 2147483647) (h : Int) (hb0 : -9223372036854775808 ≤ h) (hb1 : h ≤ 9223372036854775807) (g1 o1 nt c2 : Nat) (T : List Int) (hT : T.length = nt) (hr1 : RowAt w0 F g1 o1 (ints .u32 T)) (hnt : nt ≤ 2147483647) (hno : h < 0 ∨ (X.length : Int) ≤ h ∨ (nt : Int) ≠ h + 1) :
    CallK Try.prog 28 [.slice (some ⟨g0, o0, none⟩) X.length c, .int .i64 h, .bool true, .slice (some ⟨g1, o1, none⟩) nt c2] w0 (F) (Gives w0 fun v F2 => v = .tuple #[.pointer none, .int .i64 1] ∧ F2 = F) := by
  refine c_enter Try.func28 rfl rfl rfl ?_
  refine g_seq ?_
  refine g_region ?_
  refine l_assign rfl rfl ?_
  refine l_assign rfl rfl ?_
  refine l_nil ?_
  refine g_seq ?_
  refine g_region ?_
  refine l_move rfl rfl ?_
  refine l_assign rfl rfl ?_
  refine l_nil ?_
  refine g_seq ?_
  refine g_seq ?_
  refine g_region ?_
  refine l_move rfl rfl ?_
  refine l_nil ?_
  refine g_cond rfl ?_ ?_
  · intro hbr
    have hb12 := hbr
    refine g_region ?_
    refine l_move rfl rfl ?_
    refine l_addw rfl rfl rfl ?_
    obtain ⟨u9, hu9⟩ : ∃ u, IntKind.i64.wrap (h + 1) = u := ⟨_, rfl⟩
    rw [hu9]
    rw [IntKind.wrap_i64] at hu9
    have hu8 : (h < 9223372036854775807 → u9 = h + 1) ∧ (h = 9223372036854775807 → u9 = -9223372036854775808) := by constructor <;> intro h7 <;> omega
    clear hu9
    refine l_assign rfl rfl ?_
    refine l_nil ?_
    refine g_seq ?_
    refine g_seq ?_
    refine g_region ?_
    refine l_move rfl rfl ?_
    refine l_lss rfl rfl rfl ?_
    refine l_move rfl rfl ?_
    refine l_split 17 rfl ?_ ?_
    · intro hbr
      have hbr := of_decide_eq_true hbr
      refine l_guard_no rfl rfl rfl ?_
      refine l_guard_no rfl rfl rfl ?_
      refine l_guard_no rfl rfl rfl ?_
      refine l_guard_no rfl rfl rfl ?_
      refine l_pick_t rfl rfl rfl ?_
      refine l_move rfl rfl ?_
      refine l_guard_no rfl rfl rfl ?_
      refine l_guard_no rfl rfl rfl ?_
      refine l_guard_nou rfl rfl rfl ?_
      refine l_guard_nou rfl rfl rfl ?_
      refine l_guard_nou rfl rfl rfl ?_
      refine l_guard_nou rfl rfl rfl ?_
      refine l_guard_no rfl rfl rfl ?_
      refine l_pick_t rfl rfl rfl ?_
      refine l_move rfl rfl ?_
      refine l_guard_no rfl rfl rfl ?_
      refine l_guard_no rfl rfl rfl ?_
      refine l_guard_no rfl rfl rfl ?_
      refine l_guard_no rfl rfl rfl ?_
      refine l_pick_t rfl rfl rfl ?_
      refine l_nil ?_
      first | refine g_cond_t rfl ?_ | refine g_cond_t (congrArg (fun b => some (Value.bool b)) (decide_eq_true hbr)) ?_
      refine g_seq ?_
      refine g_region ?_
      refine l_assign rfl rfl ?_
      refine l_assign rfl rfl ?_
      refine l_nil ?_
      refine g_ret Try.func28 rfl (.tmp rfl (.tmp rfl .nil)) ?_
      exact Gives.mki ⟨rfl, rfl⟩
    intro hbr
    have hbr := of_decide_eq_false hbr
    refine l_guard_yes rfl rfl ?_
    refine l_move rfl rfl ?_
    refine l_guard_yes rfl rfl ?_
    refine l_move rfl rfl ?_
    refine l_guard_yes rfl rfl ?_
    refine l_len rfl Try.underlying23 rfl ?_
    refine l_guard_yes rfl rfl ?_
    refine l_gtr rfl rfl rfl ?_
    refine l_pick_f rfl rfl rfl ?_
    refine l_move rfl rfl ?_
    refine l_split 23 rfl ?_ ?_
    · intro hbr
      have hbr := of_decide_eq_true hbr
      refine l_guard_no rfl rfl rfl ?_
      refine l_guard_no rfl rfl rfl ?_
      refine l_guard_nou rfl rfl rfl ?_
      refine l_guard_nou rfl rfl rfl ?_
      refine l_guard_nou rfl rfl rfl ?_
      refine l_guard_nou rfl rfl rfl ?_
      refine l_guard_no rfl rfl rfl ?_
      refine l_pick_t rfl rfl rfl ?_
      refine l_move rfl rfl ?_
      refine l_guard_no rfl rfl rfl ?_
      refine l_guard_no rfl rfl rfl ?_
      refine l_guard_no rfl rfl rfl ?_
      refine l_guard_no rfl rfl rfl ?_
      refine l_pick_t rfl rfl rfl ?_
      refine l_nil ?_
      first | refine g_cond_t rfl ?_ | refine g_cond_t (congrArg (fun b => some (Value.bool b)) (decide_eq_true hbr)) ?_
      refine g_seq ?_
      refine g_region ?_
      refine l_assign rfl rfl ?_
      refine l_assign rfl rfl ?_
      refine l_nil ?_
      refine g_ret Try.func28 rfl (.tmp rfl (.tmp rfl .nil)) ?_
      exact Gives.mki ⟨rfl, rfl⟩
    intro hbr
    have hbr := of_decide_eq_false hbr
    refine l_guard_yes rfl rfl ?_
    refine l_move rfl rfl ?_
    refine l_guard_yes rfl rfl ?_
    refine l_move rfl rfl ?_
    refine l_split 25 rfl ?_ ?_
    · intro hbr
      have hb25 := hbr
      refine l_guard_yes rfl rfl ?_
      refine l_move rfl rfl ?_
      refine l_guard_yes rfl rfl ?_
      refine l_move rfl rfl ?_
      refine l_guard_yes rfl rfl ?_
      refine l_len rfl Try.underlying23 rfl ?_
      refine l_guard_yes rfl rfl ?_
      refine l_eql rfl rfl rfl ?_
      refine l_guard_yes rfl rfl ?_
      refine l_pick_t rfl rfl rfl ?_
      refine l_pick_f rfl rfl rfl ?_
      refine l_move rfl rfl ?_
      refine l_split 32 rfl ?_ ?_
      · intro hbr
        have hbr := of_decide_eq_true hbr
        refine l_guard_no rfl rfl rfl ?_
        refine l_guard_no rfl rfl rfl ?_
        refine l_guard_no rfl rfl rfl ?_
        refine l_guard_no rfl rfl rfl ?_
        refine l_pick_t rfl rfl rfl ?_
        refine l_nil ?_
        first | refine g_cond_t rfl ?_ | refine g_cond_t (congrArg (fun b => some (Value.bool b)) (decide_eq_true hbr)) ?_
        refine g_seq ?_
        refine g_region ?_
        refine l_assign rfl rfl ?_
        refine l_assign rfl rfl ?_
        refine l_nil ?_
        refine g_ret Try.func28 rfl (.tmp rfl (.tmp rfl .nil)) ?_
        exact Gives.mki ⟨rfl, rfl⟩
      intro hbr
      have hbr := of_decide_eq_false hbr
      refine l_guard_yes rfl rfl ?_
      refine l_move rfl rfl ?_
      refine l_guard_yes rfl rfl ?_
      refine l_len rfl Try.underlying38 rfl ?_
      refine l_guard_yes rfl rfl ?_
      refine l_move rfl rfl ?_
      refine l_guard_yes rfl rfl ?_
      refine l_neq rfl rfl rfl ?_
      refine l_pick_f rfl rfl rfl ?_
      refine l_nil ?_
      refine g_cond rfl ?_ ?_
      · intro hbr
        have hbr := of_decide_eq_true hbr
        refine g_seq ?_
        refine g_region ?_
        refine l_assign rfl rfl ?_
        refine l_assign rfl rfl ?_
        refine l_nil ?_
        refine g_ret Try.func28 rfl (.tmp rfl (.tmp rfl .nil)) ?_
        exact Gives.mki ⟨rfl, rfl⟩
      · intro hbr
        have hbr := of_decide_eq_false hbr
        (exfalso; first | omega | (simp at hbr; done))
    · intro hbr
      first | (exfalso; simp at hbr; done) | (exfalso; simp at hbr; omega) | (exfalso; first | omega | (simp at hbr; done))
  · intro hbr
    first | (exfalso; simp at hbr; done) | (exfalso; simp at hbr; omega) | (exfalso; first | omega | (simp at hbr; done))
set_option maxHeartbeats 4000000 in
theorem rrest_f (w0 : World) (F : List Atom) (a : Option Addr) (c : Nat) (X : List Int) (hR : RA w0 F .i64 a X.length c X) (hn : X.length ≤ 2147483647) (h : Int) (hb0 : -9223372036854775808 ≤ h) (hb1 : h ≤ 9223372036854775807) (a2 : Option Addr) (nt c2 : Nat) (T : List Int) (hR2 : RA w0 F .u32 a2 nt c2 T) (hnt : nt ≤ 2147483647) (hok : 0 ≤ h ∧ h ≤ X.length ∧ (nt : Int) = h) :
    CallK Try.prog 51 [.slice a X.length c, .int .i64 h, .bool false, .slice a2 nt c2] w0 (F) (Gives w0 fun v F2 => ∃ b al cl tt ct, v = .tuple #[.pointer (some ⟨b, 0, none⟩), .int .i64 0] ∧ (X.length = 0 ∨ ∃ g, al = some ⟨g, 0, none⟩) ∧ (nt = 0 ∨ ∃ g, tt = some ⟨g, 0, none⟩) ∧ F2 = Blk b (.cells [Value.slice al X.length cl, .int .i64 h, .bool false, .slice tt nt ct].toArray 104 (0, 0)) :: Own 3 1 (.slice al X.length cl) X.length (ints .i64 X) :: Own 51 1 (.slice tt nt ct) nt (ints .u32 T) :: F) := by
  refine c_enter Try.func51 rfl rfl rfl ?_
  refine g_seq ?_
  refine g_region ?_
  refine l_assign rfl rfl ?_
  refine l_assign rfl rfl ?_
  refine l_nil ?_
  refine g_seq ?_
  refine g_seq ?_
  refine g_region ?_
  refine l_move rfl rfl ?_
  refine l_lss rfl rfl rfl ?_
  refine l_move rfl rfl ?_
  refine l_split 14 rfl ?_ ?_
  · intro hbr
    have hbr := of_decide_eq_true hbr
    (exfalso; first | omega | (simp at hbr; done))
  intro hbr
  have hbr := of_decide_eq_false hbr
  refine l_guard_yes rfl rfl ?_
  refine l_move rfl rfl ?_
  refine l_guard_yes rfl rfl ?_
  refine l_move rfl rfl ?_
  refine l_guard_yes rfl rfl ?_
  refine l_len rfl Try.underlying23 rfl ?_
  refine l_guard_yes rfl rfl ?_
  refine l_gtr rfl rfl rfl ?_
  refine l_pick_f rfl rfl rfl ?_
  refine l_move rfl rfl ?_
  refine l_split 20 rfl ?_ ?_
  · intro hbr
    have hbr := of_decide_eq_true hbr
    (exfalso; first | omega | (simp at hbr; done))
  intro hbr
  have hbr := of_decide_eq_false hbr
  refine l_guard_yes rfl rfl ?_
  refine l_move rfl rfl ?_
  refine l_guard_yes rfl rfl ?_
  refine l_move rfl rfl ?_
  refine l_split 22 rfl ?_ ?_
  · intro hbr
    first | (exfalso; simp at hbr; done) | (exfalso; simp at hbr; omega) | (exfalso; first | omega | (simp at hbr; done))
  intro hbr
  have hb22 := hbr
  refine l_guard_no rfl rfl rfl ?_
  refine l_guard_no rfl rfl rfl ?_
  refine l_guard_no rfl rfl rfl ?_
  refine l_guard_no rfl rfl rfl ?_
  refine l_guard_yes rfl rfl ?_
  refine l_pick_f rfl rfl rfl ?_
  refine l_pick_f rfl rfl rfl ?_
  refine l_nil ?_
  first | refine g_cond_f rfl ?_ | refine g_cond_f (congrArg (fun b => some (Value.bool b)) (decide_eq_false hbr)) ?_
  refine g_skip ?_
  refine g_seq ?_
  refine g_region ?_
  refine l_move rfl rfl ?_
  refine l_assign rfl rfl ?_
  refine l_nil ?_
  refine g_seq ?_
  refine g_seq ?_
  refine g_region ?_
  refine l_move rfl rfl ?_
  refine l_nil ?_
  refine g_cond rfl ?_ ?_
  · intro hbr
    first | (exfalso; simp at hbr; done) | (exfalso; simp at hbr; omega) | (exfalso; first | omega | (simp at hbr; done))
  intro hbr
  have hb30 := hbr
  refine g_skip ?_
  refine g_seq ?_
  refine g_seq ?_
  refine g_region ?_
  refine l_move rfl rfl ?_
  refine l_len rfl Try.underlying38 rfl ?_
  refine l_move rfl rfl ?_
  refine l_neq rfl rfl rfl ?_
  refine l_nil ?_
  refine g_cond rfl ?_ ?_
  · intro hbr
    have hbr := of_decide_eq_true hbr
    (exfalso; first | omega | (simp at hbr; done))
  intro hbr
  have hbr := of_decide_eq_false hbr
  refine g_skip ?_
  refine g_seq ?_
  refine g_region ?_
  refine l_move rfl rfl ?_
  refine l_call rfl Try.call50 rfl (rnew_ok _ _ a c X hR.ex hn) ?_; rintro _ _ ⟨b, al, cl, rfl, hal, rfl⟩
  refine l_assign rfl rfl ?_
  refine l_nil ?_
  refine g_seq ?_
  refine g_region ?_
  refine l_move rfl rfl ?_
  refine l_move rfl rfl ?_
  refine l_nilCheck rfl rfl ?_
  refine l_fieldAddr rfl fa_104_1 rfl ?_
  first | refine l_st Try.sizeOf3 rfl rfl rfl rfl ?_ | refine l_stw Try.sizeOf3 rfl rfl (by omega) ?_
  refine l_nil ?_
  refine g_seq ?_
  refine g_region ?_
  refine l_move rfl rfl ?_
  refine l_move rfl rfl ?_
  refine l_nilCheck rfl rfl ?_
  refine l_fieldAddr rfl fa_104_2 rfl ?_
  refine l_st Try.sizeOf4 rfl rfl rfl rfl ?_
  refine l_nil ?_
  refine g_seq ?_
  refine g_region ?_
  refine l_move rfl rfl ?_
  refine l_move rfl rfl ?_
  refine l_nilCheck rfl rfl ?_
  refine l_fieldAddr rfl fa_104_3 rfl ?_
  refine l_ld rfl Try.isAgg38 rfl rfl ?_
  refine l_move rfl rfl ?_
  refine l_own_nil 51 1 ?_
  refine l_does rfl (does_appa 0 (by_ := 4) (kd := .u32) (W := T) Try.underlying38 Try.type51 rfl rfl rfl rfl rfl rfl rfl hR2.ex (by omega) (by simp only [maxLen]; omega) (fun _ _ => rfl)) ?_
  rintro _ _ ⟨a53, c53, ha53, hn53, rfl, rfl⟩
  refine l_nilCheck rfl rfl ?_
  refine l_fieldAddr rfl fa_104_3 rfl ?_
  refine l_st Try.sizeOf38 rfl rfl rfl rfl ?_
  refine l_nil ?_
  refine g_seq ?_
  refine g_region ?_
  refine l_move rfl rfl ?_
  refine l_assign rfl rfl ?_
  refine l_assign rfl rfl ?_
  refine l_nil ?_
  refine g_ret Try.func51 rfl (.tmp rfl (.tmp rfl .nil)) ?_
  exact Gives.mki ⟨b, al, cl, a53, c53, rfl, hal, ha53, rfl⟩
set_option maxHeartbeats 4000000 in
theorem rrno_f (w0 : World) (F : List Atom) (a : Option Addr) (c : Nat) (X : List Int) (hR : RA w0 F .i64 a X.length c X) (hn : X.length ≤ 2147483647) (h : Int) (hb0 : -9223372036854775808 ≤ h) (hb1 : h ≤ 9223372036854775807) (a2 : Option Addr) (nt c2 : Nat) (T : List Int) (hR2 : RA w0 F .u32 a2 nt c2 T) (hnt : nt ≤ 2147483647) (hno : h < 0 ∨ (X.length : Int) < h ∨ (nt : Int) ≠ h) :
    CallK Try.prog 51 [.slice a X.length c, .int .i64 h, .bool false, .slice a2 nt c2] w0 (F) (Gives w0 fun v F2 => v = .tuple #[.pointer none, .int .i64 1] ∧ F2 = F) := by
  refine c_enter Try.func51 rfl rfl rfl ?_
  refine g_seq ?_
  refine g_region ?_
  refine l_assign rfl rfl ?_
  refine l_assign rfl rfl ?_
  refine l_nil ?_
  refine g_seq ?_
  refine g_seq ?_
  refine g_region ?_
  refine l_move rfl rfl ?_
  refine l_lss rfl rfl rfl ?_
  refine l_move rfl rfl ?_
  refine l_split 14 rfl ?_ ?_
  · intro hbr
    have hbr := of_decide_eq_true hbr
    refine l_guard_no rfl rfl rfl ?_
    refine l_guard_no rfl rfl rfl ?_
    refine l_guard_no rfl rfl rfl ?_
    refine l_guard_no rfl rfl rfl ?_
    refine l_pick_t rfl rfl rfl ?_
    refine l_move rfl rfl ?_
    refine l_guard_no rfl rfl rfl ?_
    refine l_guard_no rfl rfl rfl ?_
    refine l_guard_nou rfl rfl rfl ?_
    refine l_guard_nou rfl rfl rfl ?_
    refine l_guard_nou rfl rfl rfl ?_
    refine l_guard_nou rfl rfl rfl ?_
    refine l_guard_no rfl rfl rfl ?_
    refine l_pick_t rfl rfl rfl ?_
    refine l_nil ?_
    first | refine g_cond_t rfl ?_ | refine g_cond_t (congrArg (fun b => some (Value.bool b)) (decide_eq_true hbr)) ?_
    refine g_seq ?_
    refine g_region ?_
    refine l_assign rfl rfl ?_
    refine l_assign rfl rfl ?_
    refine l_nil ?_
    refine g_ret Try.func51 rfl (.tmp rfl (.tmp rfl .nil)) ?_
    exact Gives.mki ⟨rfl, rfl⟩
  intro hbr
  have hbr := of_decide_eq_false hbr
  refine l_guard_yes rfl rfl ?_
  refine l_move rfl rfl ?_
  refine l_guard_yes rfl rfl ?_
  refine l_move rfl rfl ?_
  refine l_guard_yes rfl rfl ?_
  refine l_len rfl Try.underlying23 rfl ?_
  refine l_guard_yes rfl rfl ?_
  refine l_gtr rfl rfl rfl ?_
  refine l_pick_f rfl rfl rfl ?_
  refine l_move rfl rfl ?_
  refine l_split 20 rfl ?_ ?_
  · intro hbr
    have hbr := of_decide_eq_true hbr
    refine l_guard_no rfl rfl rfl ?_
    refine l_guard_no rfl rfl rfl ?_
    refine l_guard_nou rfl rfl rfl ?_
    refine l_guard_nou rfl rfl rfl ?_
    refine l_guard_nou rfl rfl rfl ?_
    refine l_guard_nou rfl rfl rfl ?_
    refine l_guard_no rfl rfl rfl ?_
    refine l_pick_t rfl rfl rfl ?_
    refine l_nil ?_
    first | refine g_cond_t rfl ?_ | refine g_cond_t (congrArg (fun b => some (Value.bool b)) (decide_eq_true hbr)) ?_
    refine g_seq ?_
    refine g_region ?_
    refine l_assign rfl rfl ?_
    refine l_assign rfl rfl ?_
    refine l_nil ?_
    refine g_ret Try.func51 rfl (.tmp rfl (.tmp rfl .nil)) ?_
    exact Gives.mki ⟨rfl, rfl⟩
  intro hbr
  have hbr := of_decide_eq_false hbr
  refine l_guard_yes rfl rfl ?_
  refine l_move rfl rfl ?_
  refine l_guard_yes rfl rfl ?_
  refine l_move rfl rfl ?_
  refine l_split 22 rfl ?_ ?_
  · intro hbr
    first | (exfalso; simp at hbr; done) | (exfalso; simp at hbr; omega) | (exfalso; first | omega | (simp at hbr; done))
  intro hbr
  have hb22 := hbr
  refine l_guard_no rfl rfl rfl ?_
  refine l_guard_no rfl rfl rfl ?_
  refine l_guard_no rfl rfl rfl ?_
  refine l_guard_no rfl rfl rfl ?_
  refine l_guard_yes rfl rfl ?_
  refine l_pick_f rfl rfl rfl ?_
  refine l_pick_f rfl rfl rfl ?_
  refine l_nil ?_
  first | refine g_cond_f rfl ?_ | refine g_cond_f (congrArg (fun b => some (Value.bool b)) (decide_eq_false hbr)) ?_
  refine g_skip ?_
  refine g_seq ?_
  refine g_region ?_
  refine l_move rfl rfl ?_
  refine l_assign rfl rfl ?_
  refine l_nil ?_
  refine g_seq ?_
  refine g_seq ?_
  refine g_region ?_
  refine l_move rfl rfl ?_
  refine l_nil ?_
  refine g_cond rfl ?_ ?_
  · intro hbr
    first | (exfalso; simp at hbr; done) | (exfalso; simp at hbr; omega) | (exfalso; first | omega | (simp at hbr; done))
  intro hbr
  have hb30 := hbr
  refine g_skip ?_
  refine g_seq ?_
  refine g_seq ?_
  refine g_region ?_
  refine l_move rfl rfl ?_
  refine l_len rfl Try.underlying38 rfl ?_
  refine l_move rfl rfl ?_
  refine l_neq rfl rfl rfl ?_
  refine l_nil ?_
  refine g_cond rfl ?_ ?_
  · intro hbr
    have hbr := of_decide_eq_true hbr
    refine g_seq ?_
    refine g_region ?_
    refine l_assign rfl rfl ?_
    refine l_assign rfl rfl ?_
    refine l_nil ?_
    refine g_ret Try.func51 rfl (.tmp rfl (.tmp rfl .nil)) ?_
    exact Gives.mki ⟨rfl, rfl⟩
  · intro hbr
    have hbr := of_decide_eq_false hbr
    (exfalso; first | omega | (simp at hbr; done))
set_option maxHeartbeats 4000000 in
theorem lrest_f (w0 : World) (F : List Atom) (g0 o0 c : Nat) (X : List Int) (hr0 : RowAt w0 F g0 o0 (ints .i64 X)) (hn : X.length ≤ 2147483647) (h : Int) (hb0 : -9223372036854775808 ≤ h) (hb1 : h ≤ 9223372036854775807) (g1 o1 nt c2 : Nat) (T : List Int) (hT : T.length = nt) (hr1 : RowAt w0 F g1 o1 (ints .u32 T)) (hnt : nt ≤ 2147483647) (hok : 0 ≤ h ∧ h ≤ X.length ∧ (nt : Int) = h) :
    CallK Try.prog 28 [.slice (some ⟨g0, o0, none⟩) X.length c, .int .i64 h, .bool false, .slice (some ⟨g1, o1, none⟩) nt c2] w0 (F) (Gives w0 fun v F2 => ∃ b al cl tt ct, v = .tuple #[.pointer (some ⟨b, 0, none⟩), .int .i64 0] ∧ (X.length = 0 ∨ ∃ g, al = some ⟨g, 0, none⟩) ∧ (nt = 0 ∨ ∃ g, tt = some ⟨g, 0, none⟩) ∧ F2 = Blk b (.cells [Value.slice al X.length cl, .int .i64 h, .bool false, .slice tt nt ct].toArray 84 (0, 0)) :: Own 3 1 (.slice al X.length cl) X.length (ints .i64 X) :: Own 51 1 (.slice tt nt ct) nt (ints .u32 T) :: F) := by
  refine c_enter Try.func28 rfl rfl rfl ?_
  refine g_seq ?_
  refine g_region ?_
  refine l_assign rfl rfl ?_
  refine l_assign rfl rfl ?_
  refine l_nil ?_
  refine g_seq ?_
  refine g_region ?_
  refine l_move rfl rfl ?_
  refine l_assign rfl rfl ?_
  refine l_nil ?_
  refine g_seq ?_
  refine g_seq ?_
  refine g_region ?_
  refine l_move rfl rfl ?_
  refine l_nil ?_
  refine g_cond rfl ?_ ?_
  · intro hbr
    first | (exfalso; simp at hbr; done) | (exfalso; simp at hbr; omega) | (exfalso; first | omega | (simp at hbr; done))
  intro hbr
  have hb12 := hbr
  refine g_skip ?_
  refine g_seq ?_
  refine g_seq ?_
  refine g_region ?_
  refine l_move rfl rfl ?_
  refine l_lss rfl rfl rfl ?_
  refine l_move rfl rfl ?_
  refine l_split 17 rfl ?_ ?_
  · intro hbr
    have hbr := of_decide_eq_true hbr
    (exfalso; first | omega | (simp at hbr; done))
  intro hbr
  have hbr := of_decide_eq_false hbr
  refine l_guard_yes rfl rfl ?_
  refine l_move rfl rfl ?_
  refine l_guard_yes rfl rfl ?_
  refine l_move rfl rfl ?_
  refine l_guard_yes rfl rfl ?_
  refine l_len rfl Try.underlying23 rfl ?_
  refine l_guard_yes rfl rfl ?_
  refine l_gtr rfl rfl rfl ?_
  refine l_pick_f rfl rfl rfl ?_
  refine l_move rfl rfl ?_
  refine l_split 23 rfl ?_ ?_
  · intro hbr
    have hbr := of_decide_eq_true hbr
    (exfalso; first | omega | (simp at hbr; done))
  intro hbr
  have hbr := of_decide_eq_false hbr
  refine l_guard_yes rfl rfl ?_
  refine l_move rfl rfl ?_
  refine l_guard_yes rfl rfl ?_
  refine l_move rfl rfl ?_
  refine l_split 25 rfl ?_ ?_
  · intro hbr
    first | (exfalso; simp at hbr; done) | (exfalso; simp at hbr; omega) | (exfalso; first | omega | (simp at hbr; done))
  intro hbr
  have hb25 := hbr
  refine l_guard_no rfl rfl rfl ?_
  refine l_guard_no rfl rfl rfl ?_
  refine l_guard_no rfl rfl rfl ?_
  refine l_guard_no rfl rfl rfl ?_
  refine l_guard_yes rfl rfl ?_
  refine l_pick_f rfl rfl rfl ?_
  refine l_pick_f rfl rfl rfl ?_
  refine l_move rfl rfl ?_
  refine l_guard_yes rfl rfl ?_
  refine l_move rfl rfl ?_
  refine l_guard_yes rfl rfl ?_
  refine l_len rfl Try.underlying38 rfl ?_
  refine l_guard_yes rfl rfl ?_
  refine l_move rfl rfl ?_
  refine l_guard_yes rfl rfl ?_
  refine l_neq rfl rfl rfl ?_
  refine l_pick_f rfl rfl rfl ?_
  refine l_nil ?_
  refine g_cond rfl ?_ ?_
  · intro hbr
    have hbr := of_decide_eq_true hbr
    (exfalso; first | omega | (simp at hbr; done))
  intro hbr
  have hbr := of_decide_eq_false hbr
  refine g_skip ?_
  refine g_seq ?_
  refine g_region ?_
  refine l_move rfl rfl ?_
  refine l_call rfl Try.call31 rfl (clonei_some _ _ g0 o0 X.length c X rfl (by omega) hr0.ex) ?_; rintro _ _ ⟨gl, cl, rfl, rfl⟩
  refine l_move rfl rfl ?_
  refine l_move rfl rfl ?_
  refine l_move rfl rfl ?_
  refine l_call rfl Try.call35 rfl (cloneu_some _ _ g1 o1 nt c2 T hT (by omega) hr1.ex) ?_; rintro _ _ ⟨gt, ct, rfl, rfl⟩
  refine l_build rfl rfl (fun w => bd_84_0_1_2_3 _ _ _ _ _ _ _ _ w) ?_
  refine l_boxs rfl rfl ?_; intro b45
  refine l_assign rfl rfl ?_
  refine l_assign rfl rfl ?_
  refine l_nil ?_
  refine g_ret Try.func28 rfl (.tmp rfl (.tmp rfl .nil)) ?_
  exact Gives.mki ⟨b45, some ⟨gl, 0, none⟩, cl, some ⟨gt, 0, none⟩, ct, rfl, .inr ⟨_, rfl⟩, .inr ⟨_, rfl⟩, rfl⟩
set_option maxHeartbeats 4000000 in
theorem lrno_f (w0 : World) (F : List Atom) (g0 o0 c : Nat) (X : List Int) (hr0 : RowAt w0 F g0 o0 (ints .i64 X)) (hn : X.length ≤ 2147483647) (h : Int) (hb0 : -9223372036854775808 ≤ h) (hb1 : h ≤ 9223372036854775807) (g1 o1 nt c2 : Nat) (T : List Int) (hT : T.length = nt) (hr1 : RowAt w0 F g1 o1 (ints .u32 T)) (hnt : nt ≤ 2147483647) (hno : h < 0 ∨ (X.length : Int) < h ∨ (nt : Int) ≠ h) :
    CallK Try.prog 28 [.slice (some ⟨g0, o0, none⟩) X.length c, .int .i64 h, .bool false, .slice (some ⟨g1, o1, none⟩) nt c2] w0 (F) (Gives w0 fun v F2 => v = .tuple #[.pointer none, .int .i64 1] ∧ F2 = F) := by
  refine c_enter Try.func28 rfl rfl rfl ?_
  refine g_seq ?_
  refine g_region ?_
  refine l_assign rfl rfl ?_
  refine l_assign rfl rfl ?_
  refine l_nil ?_
  refine g_seq ?_
  refine g_region ?_
  refine l_move rfl rfl ?_
  refine l_assign rfl rfl ?_
  refine l_nil ?_
  refine g_seq ?_
  refine g_seq ?_
  refine g_region ?_
  refine l_move rfl rfl ?_
  refine l_nil ?_
  refine g_cond rfl ?_ ?_
  · intro hbr
    first | (exfalso; simp at hbr; done) | (exfalso; simp at hbr; omega) | (exfalso; first | omega | (simp at hbr; done))
  intro hbr
  have hb12 := hbr
  refine g_skip ?_
  refine g_seq ?_
  refine g_seq ?_
  refine g_region ?_
  refine l_move rfl rfl ?_
  refine l_lss rfl rfl rfl ?_
  refine l_move rfl rfl ?_
  refine l_split 17 rfl ?_ ?_
  · intro hbr
    have hbr := of_decide_eq_true hbr
    refine l_guard_no rfl rfl rfl ?_
    refine l_guard_no rfl rfl rfl ?_
    refine l_guard_no rfl rfl rfl ?_
    refine l_guard_no rfl rfl rfl ?_
    refine l_pick_t rfl rfl rfl ?_
    refine l_move rfl rfl ?_
    refine l_guard_no rfl rfl rfl ?_
    refine l_guard_no rfl rfl rfl ?_
    refine l_guard_nou rfl rfl rfl ?_
    refine l_guard_nou rfl rfl rfl ?_
    refine l_guard_nou rfl rfl rfl ?_
    refine l_guard_nou rfl rfl rfl ?_
    refine l_guard_no rfl rfl rfl ?_
    refine l_pick_t rfl rfl rfl ?_
    refine l_move rfl rfl ?_
    refine l_guard_no rfl rfl rfl ?_
    refine l_guard_no rfl rfl rfl ?_
    refine l_guard_no rfl rfl rfl ?_
    refine l_guard_no rfl rfl rfl ?_
    refine l_pick_t rfl rfl rfl ?_
    refine l_nil ?_
    first | refine g_cond_t rfl ?_ | refine g_cond_t (congrArg (fun b => some (Value.bool b)) (decide_eq_true hbr)) ?_
    refine g_seq ?_
    refine g_region ?_
    refine l_assign rfl rfl ?_
    refine l_assign rfl rfl ?_
    refine l_nil ?_
    refine g_ret Try.func28 rfl (.tmp rfl (.tmp rfl .nil)) ?_
    exact Gives.mki ⟨rfl, rfl⟩
  intro hbr
  have hbr := of_decide_eq_false hbr
  refine l_guard_yes rfl rfl ?_
  refine l_move rfl rfl ?_
  refine l_guard_yes rfl rfl ?_
  refine l_move rfl rfl ?_
  refine l_guard_yes rfl rfl ?_
  refine l_len rfl Try.underlying23 rfl ?_
  refine l_guard_yes rfl rfl ?_
  refine l_gtr rfl rfl rfl ?_
  refine l_pick_f rfl rfl rfl ?_
  refine l_move rfl rfl ?_
  refine l_split 23 rfl ?_ ?_
  · intro hbr
    have hbr := of_decide_eq_true hbr
    refine l_guard_no rfl rfl rfl ?_
    refine l_guard_no rfl rfl rfl ?_
    refine l_guard_nou rfl rfl rfl ?_
    refine l_guard_nou rfl rfl rfl ?_
    refine l_guard_nou rfl rfl rfl ?_
    refine l_guard_nou rfl rfl rfl ?_
    refine l_guard_no rfl rfl rfl ?_
    refine l_pick_t rfl rfl rfl ?_
    refine l_move rfl rfl ?_
    refine l_guard_no rfl rfl rfl ?_
    refine l_guard_no rfl rfl rfl ?_
    refine l_guard_no rfl rfl rfl ?_
    refine l_guard_no rfl rfl rfl ?_
    refine l_pick_t rfl rfl rfl ?_
    refine l_nil ?_
    first | refine g_cond_t rfl ?_ | refine g_cond_t (congrArg (fun b => some (Value.bool b)) (decide_eq_true hbr)) ?_
    refine g_seq ?_
    refine g_region ?_
    refine l_assign rfl rfl ?_
    refine l_assign rfl rfl ?_
    refine l_nil ?_
    refine g_ret Try.func28 rfl (.tmp rfl (.tmp rfl .nil)) ?_
    exact Gives.mki ⟨rfl, rfl⟩
  intro hbr
  have hbr := of_decide_eq_false hbr
  refine l_guard_yes rfl rfl ?_
  refine l_move rfl rfl ?_
  refine l_guard_yes rfl rfl ?_
  refine l_move rfl rfl ?_
  refine l_split 25 rfl ?_ ?_
  · intro hbr
    first | (exfalso; simp at hbr; done) | (exfalso; simp at hbr; omega) | (exfalso; first | omega | (simp at hbr; done))
  intro hbr
  have hb25 := hbr
  refine l_guard_no rfl rfl rfl ?_
  refine l_guard_no rfl rfl rfl ?_
  refine l_guard_no rfl rfl rfl ?_
  refine l_guard_no rfl rfl rfl ?_
  refine l_guard_yes rfl rfl ?_
  refine l_pick_f rfl rfl rfl ?_
  refine l_pick_f rfl rfl rfl ?_
  refine l_move rfl rfl ?_
  refine l_guard_yes rfl rfl ?_
  refine l_move rfl rfl ?_
  refine l_guard_yes rfl rfl ?_
  refine l_len rfl Try.underlying38 rfl ?_
  refine l_guard_yes rfl rfl ?_
  refine l_move rfl rfl ?_
  refine l_guard_yes rfl rfl ?_
  refine l_neq rfl rfl rfl ?_
  refine l_pick_f rfl rfl rfl ?_
  refine l_nil ?_
  refine g_cond rfl ?_ ?_
  · intro hbr
    have hbr := of_decide_eq_true hbr
    refine g_seq ?_
    refine g_region ?_
    refine l_assign rfl rfl ?_
    refine l_assign rfl rfl ?_
    refine l_nil ?_
    refine g_ret Try.func28 rfl (.tmp rfl (.tmp rfl .nil)) ?_
    exact Gives.mki ⟨rfl, rfl⟩
  · intro hbr
    have hbr := of_decide_eq_false hbr
    (exfalso; first | omega | (simp at hbr; done))
end Go.Proofs.Ythemlddepepekaa.Fw
