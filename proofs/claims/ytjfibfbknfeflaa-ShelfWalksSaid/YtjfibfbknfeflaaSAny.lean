import Derived.Test.YtjfibfbknfeflaaSNone
namespace Go.Proofs.Ytjfibfbknfeflaa.Fw
open Go Go.Proofs
set_option linter.unusedVariables false
set_option linter.unusedSimpArgs false
set_option maxRecDepth 10000

/- What the calls do to the keys and values of a row. -/
def vint : Value → Int
  | .int _ v => v
  | _ => 0
def pr (xs : List Nd) : List (Int × Int) := xs.map fun x => (x.k, vint x.v)
def VI (xs : List Nd) : Prop := ∀ x ∈ xs, x.v = .int .i64 (vint x.v)
def delK (L : List (Int × Int)) (k : Int) : List (Int × Int) := L.filter fun p => !decide (p.1 = k)
def hasK (L : List (Int × Int)) (k : Int) : Bool := L.any fun p => decide (p.1 = k)
def valK (L : List (Int × Int)) (k : Int) : Int := ((L.find? fun p => decide (p.1 = k)).map (·.2)).getD 0
def putK (room : Int) (L : List (Int × Int)) (k v : Int) : List (Int × Int) := if hasK L k = true then delK L k ++ [(k, v)] else if (L.length : Int) = room then L.drop 1 ++ [(k, v)] else L ++ [(k, v)]
def getK (L : List (Int × Int)) (k : Int) : List (Int × Int) := if hasK L k = true then delK L k ++ [(k, valK L k)] else L
theorem pr_len (xs : List Nd) : (pr xs).length = xs.length := by simp [pr]
theorem pr_app (l1 l2 : List Nd) : pr (l1 ++ l2) = pr l1 ++ pr l2 := by simp [pr]
theorem delK_not {xs : List Nd} {k : Int} (h : ∀ x ∈ xs, x.k ≠ k) : delK (pr xs) k = pr xs := by
  refine List.filter_eq_self.2 fun p hp => ?_
  obtain ⟨x, hx, rfl⟩ := List.mem_map.1 hp
  simp [h x hx]
theorem hasK_not {xs : List Nd} {k : Int} (h : ∀ x ∈ xs, x.k ≠ k) : hasK (pr xs) k = false := by
  unfold hasK
  rw [List.any_eq_false]
  intro p hp
  obtain ⟨x, hx, rfl⟩ := List.mem_map.1 hp
  simp [h x hx]
theorem hasK_yes {l1 l2 : List Nd} {x : Nd} : hasK (pr (l1 ++ x :: l2)) x.k = true := by
  unfold hasK
  rw [List.any_eq_true]
  exact ⟨(x.k, vint x.v), List.mem_map.2 ⟨x, by simp, rfl⟩, by simp⟩
theorem nd_apart {l1 l2 : List Nd} {x : Nd} (h : ((l1 ++ x :: l2).map Nd.k).Nodup) : (∀ y ∈ l1, y.k ≠ x.k) ∧ ∀ y ∈ l2, y.k ≠ x.k := by
  rw [List.map_append, List.map_cons, List.nodup_append] at h
  obtain ⟨_, h2, h3⟩ := h
  refine ⟨fun y hy e => h3 y.k (List.mem_map.2 ⟨y, hy, rfl⟩) x.k (List.mem_cons_self ..) e, fun y hy e => ?_⟩
  exact (List.nodup_cons.1 h2).1 (List.mem_map.2 ⟨y, hy, e⟩)
theorem delK_yes {l1 l2 : List Nd} {x : Nd} (h : ((l1 ++ x :: l2).map Nd.k).Nodup) : delK (pr (l1 ++ x :: l2)) x.k = pr (l1 ++ l2) := by
  obtain ⟨h1, h2⟩ := nd_apart h
  have e1 := delK_not h1
  have e2 := delK_not h2
  unfold delK at e1 e2 ⊢
  rw [pr_app, pr_app, List.filter_append, e1]
  show pr l1 ++ (List.filter _ ((x.k, vint x.v) :: pr l2)) = _
  rw [List.filter_cons, if_neg (by simp), e2]
theorem valK_yes {l1 l2 : List Nd} {x : Nd} (h : ((l1 ++ x :: l2).map Nd.k).Nodup) : valK (pr (l1 ++ x :: l2)) x.k = vint x.v := by
  obtain ⟨h1, h2⟩ := nd_apart h
  unfold valK
  rw [pr_app, List.find?_append]
  have : (pr l1).find? (fun p => decide (p.1 = x.k)) = none := by
    rw [List.find?_eq_none]
    intro p hp
    obtain ⟨y, hy, rfl⟩ := List.mem_map.1 hp
    simp [h1 y hy]
  rw [this]
  show ((List.find? (fun p => decide (p.1 = x.k)) ((x.k, vint x.v) :: pr l2)).map (·.2)).getD 0 = _
  rw [List.find?_cons_of_pos (by simp)]
  rfl
theorem VI.mid {l1 l2 : List Nd} {x : Nd} (h : VI (l1 ++ x :: l2)) : VI (l1 ++ l2) := fun y hy => h y (by
  rcases List.mem_append.1 hy with hy | hy
  · exact List.mem_append_left _ hy
  · exact List.mem_append_right _ (List.mem_cons_of_mem _ hy))
theorem VI.snoc {xs : List Nd} {x : Nd} (h : VI xs) (hx : x.v = .int .i64 (vint x.v)) : VI (xs ++ [x]) := fun y hy => by
  rcases List.mem_append.1 hy with hy | hy
  · exact h y hy
  · obtain rfl := List.mem_singleton.1 hy
    exact hx
theorem drop_cons {α : Type} {xs : List α} {j : Nat} {x : α} {l : List α} (h : xs.drop j = x :: l) : xs.drop (j + 1) = l ∧ xs = xs.take j ++ x :: l ∧ j < xs.length ∧ xs[j]? = some x ∧ xs.take (j + 1) = xs.take j ++ [x] := by
  have hl : j < xs.length := by
    rcases Nat.lt_or_ge j xs.length with h2 | h2
    · exact h2
    · rw [List.drop_eq_nil_of_le h2] at h; cases h
  have h1 : xs[j]? = some x := by
    have := congrArg (fun l => l[0]?) h
    simpa using this
  refine ⟨?_, ?_, hl, h1, ?_⟩
  · rw [← List.drop_drop, h]; rfl
  · rw [← h, List.take_append_drop]
  · rw [List.take_add_one, h1]; rfl
theorem fst_some {xs : List Nd} (h : (!(fstP xs none).isNone) = true) : ∃ x l, xs = x :: l := by
  cases xs with
  | nil => cases h
  | cons x l => exact ⟨x, l, rfl⟩
theorem fst_none {xs : List Nd} (h : (!(fstP xs none).isNone) = false) : xs = [] := by
  cases xs with
  | nil => rfl
  | cons x l => cases h
theorem holds_mid {w0 : World} {A B : Atom} {H F : List Atom} {w : World} : Holds w0 (A :: B :: (H ++ F)) w ↔ Holds w0 (H ++ A :: B :: F) w := by
  have hp : (A :: B :: (H ++ F)).Perm (H ++ A :: B :: F) := (List.perm_middle.symm.cons A).trans List.perm_middle.symm
  exact ⟨fun h => h.perm hp, fun h => h.perm hp.symm⟩

theorem peek_any (w0 : World) (F : List Atom) (sb m : Nat) (room : Int) (kv : List (Int × Value)) (xs : List Nd) (hS : ShOk kv xs) (hV : VI xs) (k : Int) : CallK Try.prog 21 [.pointer (some ⟨sb, 0, none⟩), .int .i64 k] w0 (Blk sb (.cells [Value.int .i64 room, .map (some m), .pointer (fstP (xs) none), .pointer (lstP (xs) none)].toArray 71 (0, 0)) :: Seg 75 none (xs) none :: MapI m kv :: F) (Gives w0 fun v F2 => v = .tuple #[.int .i64 (valK (pr xs) k), .bool (hasK (pr xs) k)] ∧ F2 = Blk sb (.cells [Value.int .i64 room, .map (some m), .pointer (fstP (xs) none), .pointer (lstP (xs) none)].toArray 71 (0, 0)) :: Seg 75 none (xs) none :: MapI m kv :: F) := by
  rcases nd_split (xs := xs) (k := k) with ⟨l1, x, l2, rfl, rfl⟩ | h
  · exact (peek_yes_ii w0 F sb m room kv l1 l2 x hS).gmono fun v F2 ⟨e1, e2⟩ => ⟨by rw [e1, hasK_yes, valK_yes hS.nd, hV x (by simp)]; rfl, e2⟩
  · refine (peek_no_ii w0 F sb m room kv xs hS k h).gmono fun v F2 ⟨e1, e2⟩ => ⟨?_, e2⟩
    have hf : (pr xs).find? (fun p => decide (p.1 = k)) = none := by
      rw [List.find?_eq_none]
      intro p hp
      obtain ⟨y, hy, rfl⟩ := List.mem_map.1 hp
      simp [h y hy]
    rw [e1, hasK_not h]
    unfold valK
    rw [hf]
    rfl
theorem get_any (w0 : World) (F : List Atom) (sb m : Nat) (room : Int) (kv : List (Int × Value)) (xs : List Nd) (hS : ShOk kv xs) (hV : VI xs) (k : Int) : CallK Try.prog 14 [.pointer (some ⟨sb, 0, none⟩), .int .i64 k] w0 (Blk sb (.cells [Value.int .i64 room, .map (some m), .pointer (fstP (xs) none), .pointer (lstP (xs) none)].toArray 71 (0, 0)) :: Seg 75 none (xs) none :: MapI m kv :: F) (Gives w0 fun v F2 => ∃ r xs', v = .tuple #[r, .bool (hasK (pr xs) k)] ∧ ShOk kv xs' ∧ VI xs' ∧ pr xs' = getK (pr xs) k ∧ F2 = Blk sb (.cells [Value.int .i64 room, .map (some m), .pointer (fstP (xs') none), .pointer (lstP (xs') none)].toArray 71 (0, 0)) :: Seg 75 none (xs') none :: MapI m kv :: F) := by
  rcases nd_split (xs := xs) (k := k) with ⟨l1, x, l2, rfl, rfl⟩ | h
  · exact (get_yes_ii w0 F sb m room kv l1 l2 x hS).gmono fun v F2 ⟨e1, e2⟩ => ⟨x.v, l1 ++ l2 ++ [x], e1.trans (by rw [hasK_yes]), hS.move rfl rfl, (hV.mid).snoc (hV x (by simp)), by unfold getK; rw [if_pos hasK_yes, delK_yes hS.nd, valK_yes hS.nd, pr_app]; rfl, e2⟩
  · exact (get_no_ii w0 F sb m room kv xs hS k h).gmono fun v F2 ⟨e1, e2⟩ => ⟨.int .i64 0, xs, e1.trans (by rw [hasK_not h]), hS, hV, by unfold getK; rw [if_neg (by rw [hasK_not h]; decide)], e2⟩
theorem drop_any (w0 : World) (F : List Atom) (sb m : Nat) (room : Int) (kv : List (Int × Value)) (xs : List Nd) (hS : ShOk kv xs) (hV : VI xs) (k : Int) : CallK Try.prog 30 [.pointer (some ⟨sb, 0, none⟩), .int .i64 k] w0 (Blk sb (.cells [Value.int .i64 room, .map (some m), .pointer (fstP (xs) none), .pointer (lstP (xs) none)].toArray 71 (0, 0)) :: Seg 75 none (xs) none :: MapI m kv :: F) (Gives w0 fun v F2 => ∃ xs' kv', v = .bool (hasK (pr xs) k) ∧ ShOk kv' xs' ∧ VI xs' ∧ pr xs' = delK (pr xs) k ∧ F2 = Blk sb (.cells [Value.int .i64 room, .map (some m), .pointer (fstP (xs') none), .pointer (lstP (xs') none)].toArray 71 (0, 0)) :: Seg 75 none (xs') none :: MapI m kv' :: F) := by
  rcases nd_split (xs := xs) (k := k) with ⟨l1, x, l2, rfl, rfl⟩ | h
  · exact (drop_yes_ii w0 F sb m room kv l1 l2 x hS).gmono fun v F2 ⟨kv2, e1, e3, e2⟩ => ⟨l1 ++ l2, kv2, e1.trans (by rw [hasK_yes]), e3, hV.mid, (delK_yes hS.nd).symm, e2⟩
  · exact (drop_no_ii w0 F sb m room kv xs hS k h).gmono fun v F2 ⟨e1, e2⟩ => ⟨xs, kv, e1.trans (by rw [hasK_not h]), hS, hV, (delK_not h).symm, e2⟩
theorem put_any (w0 : World) (F : List Atom) (sb m : Nat) (room : Int) (kv : List (Int × Value)) (xs : List Nd) (hS : ShOk kv xs) (hV : VI xs) (k : Int) (hroom : 1 ≤ room) (u : Int) : CallK Try.prog 17 [.pointer (some ⟨sb, 0, none⟩), .int .i64 k, .int .i64 u] w0 (Blk sb (.cells [Value.int .i64 room, .map (some m), .pointer (fstP (xs) none), .pointer (lstP (xs) none)].toArray 71 (0, 0)) :: Seg 75 none (xs) none :: MapI m kv :: F) (Gives w0 fun v F2 => ∃ r g xs' kv', v = .tuple #[r, g] ∧ ShOk kv' xs' ∧ VI xs' ∧ pr xs' = putK room (pr xs) k u ∧ F2 = Blk sb (.cells [Value.int .i64 room, .map (some m), .pointer (fstP (xs') none), .pointer (lstP (xs') none)].toArray 71 (0, 0)) :: Seg 75 none (xs') none :: MapI m kv' :: F) := by
  rcases nd_split (xs := xs) (k := k) with ⟨l1, ⟨b, k2, v2⟩, l2, rfl, rfl⟩ | h
  · have hv := hV ⟨b, k2, v2⟩ (by simp)
    simp only at hv
    rw [hv] at hS ⊢
    exact (put_yes_ii w0 F sb m room kv l1 l2 b k2 (vint v2) u hS).gmono fun v F2 ⟨e1, e2⟩ => ⟨_, _, l1 ++ l2 ++ [⟨b, k2, .int .i64 u⟩], kv, e1, hS.move rfl rfl, (hV.mid).snoc rfl, by unfold putK; rw [if_pos hasK_yes, delK_yes hS.nd, pr_app]; rfl, e2⟩
  · have hk : hasK (pr xs) k = true → False := by rw [hasK_not h]; intro e; cases e
    by_cases hr : (xs.length : Int) = room
    · cases xs with
      | nil =>
        exact absurd hr (by simp only [List.length_nil]; omega)
      | cons x0 xs =>
        exact (put_full_ii w0 F sb m room kv x0 xs k u hS h hr).gmono fun v F2 ⟨b, kv2, e1, e3, e2⟩ => ⟨_, _, _, kv2, e1, e3, VI.snoc (fun y hy => hV y (List.mem_cons_of_mem _ hy)) rfl, by unfold putK; rw [if_neg hk, if_pos (by rw [pr_len]; exact hr), pr_app]; rfl, e2⟩
    · exact (put_new_ii w0 F sb m room kv xs k u hS h hr).gmono fun v F2 ⟨b, kv2, e1, e3, e2⟩ => ⟨_, _, _, kv2, e1, e3, hV.snoc rfl, by unfold putK; rw [if_neg hk, if_neg (by rw [pr_len]; exact hr), pr_app]; rfl, e2⟩
theorem clear_ok (w0 : World) (F : List Atom) (sb m : Nat) (room : Int) (kv : List (Int × Value)) (xs : List Nd) (hS : ShOk kv xs) :
    CallK Try.prog 32 [.pointer (some ⟨sb, 0, none⟩)] w0 (Blk sb (.cells [Value.int .i64 room, .map (some m), .pointer (fstP (xs) none), .pointer (lstP (xs) none)].toArray 71 (0, 0)) :: Seg 75 none (xs) none :: MapI m kv :: F) (Gives w0 fun v F2 => F2 = Blk sb (.cells [Value.int .i64 room, .map (some m), .pointer (fstP ([]) none), .pointer (lstP ([]) none)].toArray 71 (0, 0)) :: Seg 75 none ([]) none :: MapI m [] :: F) := by
  refine c_enter Try.func32 rfl rfl rfl ?_
  refine g_seq ?_
  refine g_seq ?_
  refine g_region ?_
  refine l_move rfl rfl ?_
  refine l_eqpn rfl Try.underlying34 rfl rfl ?_
  refine l_nil ?_
  refine g_cond_f rfl ?_
  refine g_skip ?_
  refine g_block ?_
  refine g_loopk (X := List Nd × List (Int × Value)) [(0, _)] (.cons rfl (.nil)) (fun z => ShOk z.2 z.1) (fun z => z.1.length) (fun z => []) (fun z => Blk sb (.cells [Value.int .i64 room, .map (some m), .pointer (fstP (z.1) none), .pointer (lstP (z.1) none)].toArray 71 (0, 0)) :: Seg 75 none (z.1) none :: MapI m z.2 :: F) ((xs, kv)) (hS) (.nil) (fun w hw => hw) ?_
  rintro ⟨xs, kv⟩ hS ih
  dsimp only [List.cons_append, List.nil_append] at ih ⊢
  simp only at hS
  refine g_seq ?_
  refine g_seq ?_
  refine g_region ?_
  refine l_move rfl rfl ?_
  refine l_nilCheck rfl rfl ?_
  refine l_fieldAddr rfl fa_71_2 rfl ?_
  refine l_ld rfl Try.isAgg69 rfl rfl ?_
  refine l_nepn rfl Try.underlying69 rfl rfl ?_
  refine l_nil ?_
  refine g_cond rfl ?_ ?_
  · intro hbr
    have hb8 := hbr
    refine g_skip ?_
    refine g_block ?_
    refine g_region ?_
    obtain ⟨x, xs, rfl⟩ := fst_some hb8
    refine l_move rfl rfl ?_
    refine l_move rfl rfl ?_
    refine l_nilCheck rfl rfl ?_
    refine l_fieldAddr rfl fa_71_2 rfl ?_
    refine l_ld rfl Try.isAgg69 rfl rfl ?_
    refine l_nilCheck rfl rfl ?_
    refine l_fieldAddr rfl fa_75_0 rfl ?_
    refine l_loadc (v := .int .i64 x.k) rfl Try.isAgg3 rfl (seg_cell (l1 := []) (l2 := xs) (x := x) (show Seg 75 none (x :: xs) none ∈ _ from (by first | exact mem_getO 0 rfl | exact mem_getO 1 rfl | exact mem_getO 2 rfl | exact mem_getO 3 rfl | exact mem_getO 4 rfl | exact mem_getO 5 rfl)) (o := 0) rfl) ?_
    refine l_call rfl Try.call30 rfl (drop_yes_ii _ _ sb m room kv [] xs x hS) ?_; rintro _ _ ⟨kv2, rfl, hS2, rfl⟩
    rw [List.nil_append] at hS2 ⊢
    refine l_nil ?_
    refine g_inBlock ?_
    exact g_againi (ih (xs, kv2) hS2 (by simp only [List.length_cons]; omega)) (.cons rfl (.nil))
  intro hbr
  have hb8 := hbr
  refine g_exit rfl ?_
  obtain rfl := fst_none hb8
  obtain rfl : kv = [] := List.length_eq_zero_iff.1 hS.len
  refine g_end Try.func32 rfl .nil ?_
  exact Gives.mki rfl
theorem room_ok (w0 : World) (F : List Atom) (sb m : Nat) (room : Int) (kv : List (Int × Value)) (xs : List Nd) :
    CallK Try.prog 31 [.pointer (some ⟨sb, 0, none⟩)] w0 (Blk sb (.cells [Value.int .i64 room, .map (some m), .pointer (fstP (xs) none), .pointer (lstP (xs) none)].toArray 71 (0, 0)) :: Seg 75 none (xs) none :: MapI m kv :: F) (Gives w0 fun v F2 => v = .int .i64 room ∧ F2 = Blk sb (.cells [Value.int .i64 room, .map (some m), .pointer (fstP (xs) none), .pointer (lstP (xs) none)].toArray 71 (0, 0)) :: Seg 75 none (xs) none :: MapI m kv :: F) := by
  refine c_enter Try.func31 rfl rfl rfl ?_
  refine g_seq ?_
  refine g_region ?_
  refine l_assign rfl rfl ?_
  refine l_nil ?_
  refine g_seq ?_
  refine g_seq ?_
  refine g_region ?_
  refine l_move rfl rfl ?_
  refine l_eqpn rfl Try.underlying34 rfl rfl ?_
  refine l_nil ?_
  refine g_cond_f rfl ?_
  refine g_skip ?_
  refine g_seq ?_
  refine g_region ?_
  refine l_move rfl rfl ?_
  refine l_nilCheck rfl rfl ?_
  refine l_fieldAddr rfl fa_71_0 rfl ?_
  first | refine l_ld rfl Try.isAgg3 rfl rfl ?_ | refine l_ldw rfl Try.isAgg3 rfl (by omega) ?_
  refine l_assign rfl rfl ?_
  refine l_nil ?_
  refine g_ret Try.func31 rfl (.tmp rfl .nil) ?_
  exact Gives.mki ⟨rfl, rfl⟩
end Go.Proofs.Ytjfibfbknfeflaa.Fw
