import Derived.Test.YtjfibfbknfeflaaDoorDCall2
import Derived.Test.YtjfibfbknfeflaaDoorDGen
namespace Go.Proofs.YtjfibfbknfeflaaDoor.Fw
open Go Go.Proofs
set_option linter.unusedVariables false
set_option linter.unusedSimpArgs false
set_option maxRecDepth 10000

abbrev pS (xs : List NdS) : List (ByteArray × (Int × Int)) := pg NdS.k NdS.v xs
theorem pS_len (xs : List NdS) : (pS xs).length = xs.length := pg_len ..
theorem peek_any_st (w0 : World) (F : List Atom) (sb m : Nat) (room : Int) (kv : List (ByteArray × Value)) (xs : List NdS) (hS : ShOkS kv xs) (k : ByteArray) : CallK Tryd.prog 29 [.pointer (some ⟨sb, 0, none⟩), .string k] w0 (Blk sb (.cells [Value.int .i64 room, .map (some m), .pointer (fstPS (xs) none), .pointer (lstPS (xs) none)].toArray 51 (0, 0)) :: SegS 96 none (xs) none :: MapG Value.string m kv :: F) (Gives w0 fun v F2 => v = .tuple #[.agg #[.int .i64 (valG (0, 0) (pS xs) k).1, .int .i64 (valG (0, 0) (pS xs) k).2], .bool (hasG (pS xs) k)] ∧ F2 = Blk sb (.cells [Value.int .i64 room, .map (some m), .pointer (fstPS (xs) none), .pointer (lstPS (xs) none)].toArray 51 (0, 0)) :: SegS 96 none (xs) none :: MapG Value.string m kv :: F) := by
  rcases nd_splitS (xs := xs) (k := k) with ⟨l1, x, l2, rfl, rfl⟩ | h
  · obtain ⟨p1, p2, p3⟩ := pg_yes (vf := NdS.v) hS.nd
    exact (peek_yes_st w0 F sb m room kv l1 l2 x hS).gmono fun v F2 ⟨e1, e2⟩ => ⟨by rw [e1, p1, p2], e2⟩
  · obtain ⟨p1, p2⟩ := pg_no (kf := NdS.k) (vf := NdS.v) h
    exact (peek_no_st w0 F sb m room kv xs hS k h).gmono fun v F2 ⟨e1, e2⟩ => ⟨by rw [e1, p1, valG_none p1], e2⟩
theorem get_any_st (w0 : World) (F : List Atom) (sb m : Nat) (room : Int) (kv : List (ByteArray × Value)) (xs : List NdS) (hS : ShOkS kv xs) (k : ByteArray) : CallK Tryd.prog 27 [.pointer (some ⟨sb, 0, none⟩), .string k] w0 (Blk sb (.cells [Value.int .i64 room, .map (some m), .pointer (fstPS (xs) none), .pointer (lstPS (xs) none)].toArray 51 (0, 0)) :: SegS 96 none (xs) none :: MapG Value.string m kv :: F) (Gives w0 fun v F2 => ∃ xs', v = .tuple #[.agg #[.int .i64 (valG (0, 0) (pS xs) k).1, .int .i64 (valG (0, 0) (pS xs) k).2], .bool (hasG (pS xs) k)] ∧ ShOkS kv xs' ∧ (pS xs') = getG (0, 0) (pS xs) k ∧ F2 = Blk sb (.cells [Value.int .i64 room, .map (some m), .pointer (fstPS (xs') none), .pointer (lstPS (xs') none)].toArray 51 (0, 0)) :: SegS 96 none (xs') none :: MapG Value.string m kv :: F) := by
  rcases nd_splitS (xs := xs) (k := k) with ⟨l1, x, l2, rfl, rfl⟩ | h
  · obtain ⟨p1, p2, p3⟩ := pg_yes (vf := NdS.v) hS.nd
    exact (get_yes_st w0 F sb m room kv l1 l2 x hS).gmono fun v F2 ⟨e1, e2⟩ => ⟨l1 ++ l2 ++ [x], by rw [e1, p1, p2], hS.move rfl rfl, by unfold getG; rw [if_pos p1, p2, p3]; exact pg_snoc NdS.k NdS.v (l1 ++ l2) x, e2⟩
  · obtain ⟨p1, p2⟩ := pg_no (kf := NdS.k) (vf := NdS.v) h
    exact (get_no_st w0 F sb m room kv xs hS k h).gmono fun v F2 ⟨e1, e2⟩ => ⟨xs, by rw [e1, p1, valG_none p1], hS, by unfold getG; rw [if_neg (by rw [p1]; decide)], e2⟩
theorem drop_any_st (w0 : World) (F : List Atom) (sb m : Nat) (room : Int) (kv : List (ByteArray × Value)) (xs : List NdS) (hS : ShOkS kv xs) (k : ByteArray) : CallK Tryd.prog 31 [.pointer (some ⟨sb, 0, none⟩), .string k] w0 (Blk sb (.cells [Value.int .i64 room, .map (some m), .pointer (fstPS (xs) none), .pointer (lstPS (xs) none)].toArray 51 (0, 0)) :: SegS 96 none (xs) none :: MapG Value.string m kv :: F) (Gives w0 fun v F2 => ∃ xs' kv', v = .bool (hasG (pS xs) k) ∧ ShOkS kv' xs' ∧ (pS xs') = delG (pS xs) k ∧ F2 = Blk sb (.cells [Value.int .i64 room, .map (some m), .pointer (fstPS (xs') none), .pointer (lstPS (xs') none)].toArray 51 (0, 0)) :: SegS 96 none (xs') none :: MapG Value.string m kv' :: F) := by
  rcases nd_splitS (xs := xs) (k := k) with ⟨l1, x, l2, rfl, rfl⟩ | h
  · obtain ⟨p1, p2, p3⟩ := pg_yes (vf := NdS.v) hS.nd
    exact (drop_yes_st w0 F sb m room kv l1 l2 x hS).gmono fun v F2 ⟨kv2, e1, e3, e2⟩ => ⟨l1 ++ l2, kv2, by rw [e1, p1], e3, p3.symm, e2⟩
  · obtain ⟨p1, p2⟩ := pg_no (kf := NdS.k) (vf := NdS.v) h
    exact (drop_no_st w0 F sb m room kv xs hS k h).gmono fun v F2 ⟨e1, e2⟩ => ⟨xs, kv, by rw [e1, p1], hS, p2.symm, e2⟩
theorem put_any_st (w0 : World) (F : List Atom) (sb m : Nat) (room : Int) (kv : List (ByteArray × Value)) (xs : List NdS) (hS : ShOkS kv xs) (k : ByteArray) (u : (Int × Int)) (hroom : 1 ≤ room) : CallK Tryd.prog 25 [.pointer (some ⟨sb, 0, none⟩), .string k, .agg #[.int .i64 u.1, .int .i64 u.2]] w0 (Blk sb (.cells [Value.int .i64 room, .map (some m), .pointer (fstPS (xs) none), .pointer (lstPS (xs) none)].toArray 51 (0, 0)) :: SegS 96 none (xs) none :: MapG Value.string m kv :: F) (Gives w0 fun v F2 => ∃ xs' kv', v = .tuple #[.string ((goneG room (pS xs) k).getD ⟨#[]⟩), .bool (goneG room (pS xs) k).isSome] ∧ ShOkS kv' xs' ∧ (pS xs') = putG room (pS xs) k u ∧ F2 = Blk sb (.cells [Value.int .i64 room, .map (some m), .pointer (fstPS (xs') none), .pointer (lstPS (xs') none)].toArray 51 (0, 0)) :: SegS 96 none (xs') none :: MapG Value.string m kv' :: F) := by
  rcases nd_splitS (xs := xs) (k := k) with ⟨l1, ⟨b, k2, v2⟩, l2, rfl, rfl⟩ | h
  · obtain ⟨p1, p2, p3⟩ := pg_yes (vf := NdS.v) hS.nd
    have g1 : goneG room (pS (l1 ++ ⟨b, k2, v2⟩ :: l2)) k2 = none := by unfold goneG; rw [if_pos p1]
    have g2 : putG room (pS (l1 ++ ⟨b, k2, v2⟩ :: l2)) k2 u = pS (l1 ++ l2 ++ [⟨b, k2, u⟩]) := by unfold putG; rw [if_pos p1, p3]; exact (pg_snoc NdS.k NdS.v (l1 ++ l2) ⟨b, k2, u⟩).symm
    exact (put_yes_st w0 F sb m room kv l1 l2 b k2 v2 u hS).gmono fun v F2 ⟨e1, e2⟩ => ⟨l1 ++ l2 ++ [⟨b, k2, u⟩], kv, by rw [e1, g1]; rfl, hS.move rfl rfl, g2.symm, e2⟩
  · obtain ⟨p1, p2⟩ := pg_no (kf := NdS.k) (vf := NdS.v) h
    have hk : ¬ hasG (pS xs) k = true := by rw [p1]; decide
    by_cases hr : (xs.length : Int) = room
    · cases xs with
      | nil =>
        exact absurd hr (by simp only [List.length_nil]; omega)
      | cons x0 xs =>
        have g1 : goneG room (pS (x0 :: xs)) k = some x0.k := by unfold goneG; rw [if_neg hk, if_pos (by rw [pS_len]; exact hr)]; rfl
        exact (put_full_st w0 F sb m room kv x0 xs k u hS h hr).gmono fun v F2 ⟨b, kv2, e1, e3, e2⟩ => ⟨_, kv2, by rw [e1, g1]; rfl, e3, by unfold putG; rw [if_neg hk, if_pos (by rw [pS_len]; exact hr)]; exact pg_snoc NdS.k NdS.v xs ⟨b, k, u⟩, e2⟩
    · have g1 : goneG room (pS xs) k = none := by unfold goneG; rw [if_neg hk, if_neg (by rw [pS_len]; exact hr)]
      exact (put_new_st w0 F sb m room kv xs k u hS h hr).gmono fun v F2 ⟨b, kv2, e1, e3, e2⟩ => ⟨_, kv2, by rw [e1, g1]; rfl, e3, by unfold putG; rw [if_neg hk, if_neg (by rw [pS_len]; exact hr)]; exact pg_snoc NdS.k NdS.v xs ⟨b, k, u⟩, e2⟩
abbrev pQ (xs : List NdQ) : List ((Int × Int) × ByteArray) := pg NdQ.k NdQ.v xs
theorem pQ_len (xs : List NdQ) : (pQ xs).length = xs.length := pg_len ..
theorem peek_any_pt (w0 : World) (F : List Atom) (sb m : Nat) (room : Int) (kv : List ((Int × Int) × Value)) (xs : List NdQ) (hS : ShOkQ kv xs) (k : (Int × Int)) : CallK Tryd.prog 37 [.pointer (some ⟨sb, 0, none⟩), .agg #[.int .i64 k.1, .int .i64 k.2]] w0 (Blk sb (.cells [Value.int .i64 room, .map (some m), .pointer (fstPQ (xs) none), .pointer (lstPQ (xs) none)].toArray 55 (0, 0)) :: SegQ 102 none (xs) none :: MapG kvP m kv :: F) (Gives w0 fun v F2 => v = .tuple #[.string (valG ⟨#[]⟩ (pQ xs) k), .bool (hasG (pQ xs) k)] ∧ F2 = Blk sb (.cells [Value.int .i64 room, .map (some m), .pointer (fstPQ (xs) none), .pointer (lstPQ (xs) none)].toArray 55 (0, 0)) :: SegQ 102 none (xs) none :: MapG kvP m kv :: F) := by
  rcases nd_splitQ (xs := xs) (k := k) with ⟨l1, x, l2, rfl, rfl⟩ | h
  · obtain ⟨p1, p2, p3⟩ := pg_yes (vf := NdQ.v) hS.nd
    exact (peek_yes_pt w0 F sb m room kv l1 l2 x hS).gmono fun v F2 ⟨e1, e2⟩ => ⟨by rw [e1, p1, p2], e2⟩
  · obtain ⟨p1, p2⟩ := pg_no (kf := NdQ.k) (vf := NdQ.v) h
    exact (peek_no_pt w0 F sb m room kv xs hS k h).gmono fun v F2 ⟨e1, e2⟩ => ⟨by rw [e1, p1, valG_none p1], e2⟩
theorem get_any_pt (w0 : World) (F : List Atom) (sb m : Nat) (room : Int) (kv : List ((Int × Int) × Value)) (xs : List NdQ) (hS : ShOkQ kv xs) (k : (Int × Int)) : CallK Tryd.prog 36 [.pointer (some ⟨sb, 0, none⟩), .agg #[.int .i64 k.1, .int .i64 k.2]] w0 (Blk sb (.cells [Value.int .i64 room, .map (some m), .pointer (fstPQ (xs) none), .pointer (lstPQ (xs) none)].toArray 55 (0, 0)) :: SegQ 102 none (xs) none :: MapG kvP m kv :: F) (Gives w0 fun v F2 => ∃ xs', v = .tuple #[.string (valG ⟨#[]⟩ (pQ xs) k), .bool (hasG (pQ xs) k)] ∧ ShOkQ kv xs' ∧ (pQ xs') = getG ⟨#[]⟩ (pQ xs) k ∧ F2 = Blk sb (.cells [Value.int .i64 room, .map (some m), .pointer (fstPQ (xs') none), .pointer (lstPQ (xs') none)].toArray 55 (0, 0)) :: SegQ 102 none (xs') none :: MapG kvP m kv :: F) := by
  rcases nd_splitQ (xs := xs) (k := k) with ⟨l1, x, l2, rfl, rfl⟩ | h
  · obtain ⟨p1, p2, p3⟩ := pg_yes (vf := NdQ.v) hS.nd
    exact (get_yes_pt w0 F sb m room kv l1 l2 x hS).gmono fun v F2 ⟨e1, e2⟩ => ⟨l1 ++ l2 ++ [x], by rw [e1, p1, p2], hS.move rfl rfl, by unfold getG; rw [if_pos p1, p2, p3]; exact pg_snoc NdQ.k NdQ.v (l1 ++ l2) x, e2⟩
  · obtain ⟨p1, p2⟩ := pg_no (kf := NdQ.k) (vf := NdQ.v) h
    exact (get_no_pt w0 F sb m room kv xs hS k h).gmono fun v F2 ⟨e1, e2⟩ => ⟨xs, by rw [e1, p1, valG_none p1], hS, by unfold getG; rw [if_neg (by rw [p1]; decide)], e2⟩
theorem drop_any_pt (w0 : World) (F : List Atom) (sb m : Nat) (room : Int) (kv : List ((Int × Int) × Value)) (xs : List NdQ) (hS : ShOkQ kv xs) (k : (Int × Int)) : CallK Tryd.prog 38 [.pointer (some ⟨sb, 0, none⟩), .agg #[.int .i64 k.1, .int .i64 k.2]] w0 (Blk sb (.cells [Value.int .i64 room, .map (some m), .pointer (fstPQ (xs) none), .pointer (lstPQ (xs) none)].toArray 55 (0, 0)) :: SegQ 102 none (xs) none :: MapG kvP m kv :: F) (Gives w0 fun v F2 => ∃ xs' kv', v = .bool (hasG (pQ xs) k) ∧ ShOkQ kv' xs' ∧ (pQ xs') = delG (pQ xs) k ∧ F2 = Blk sb (.cells [Value.int .i64 room, .map (some m), .pointer (fstPQ (xs') none), .pointer (lstPQ (xs') none)].toArray 55 (0, 0)) :: SegQ 102 none (xs') none :: MapG kvP m kv' :: F) := by
  rcases nd_splitQ (xs := xs) (k := k) with ⟨l1, x, l2, rfl, rfl⟩ | h
  · obtain ⟨p1, p2, p3⟩ := pg_yes (vf := NdQ.v) hS.nd
    exact (drop_yes_pt w0 F sb m room kv l1 l2 x hS).gmono fun v F2 ⟨kv2, e1, e3, e2⟩ => ⟨l1 ++ l2, kv2, by rw [e1, p1], e3, p3.symm, e2⟩
  · obtain ⟨p1, p2⟩ := pg_no (kf := NdQ.k) (vf := NdQ.v) h
    exact (drop_no_pt w0 F sb m room kv xs hS k h).gmono fun v F2 ⟨e1, e2⟩ => ⟨xs, kv, by rw [e1, p1], hS, p2.symm, e2⟩
theorem put_any_pt (w0 : World) (F : List Atom) (sb m : Nat) (room : Int) (kv : List ((Int × Int) × Value)) (xs : List NdQ) (hS : ShOkQ kv xs) (k : (Int × Int)) (u : ByteArray) (hroom : 1 ≤ room) : CallK Tryd.prog 35 [.pointer (some ⟨sb, 0, none⟩), .agg #[.int .i64 k.1, .int .i64 k.2], .string u] w0 (Blk sb (.cells [Value.int .i64 room, .map (some m), .pointer (fstPQ (xs) none), .pointer (lstPQ (xs) none)].toArray 55 (0, 0)) :: SegQ 102 none (xs) none :: MapG kvP m kv :: F) (Gives w0 fun v F2 => ∃ xs' kv', v = .tuple #[.agg #[.int .i64 ((goneG room (pQ xs) k).getD (0, 0)).1, .int .i64 ((goneG room (pQ xs) k).getD (0, 0)).2], .bool (goneG room (pQ xs) k).isSome] ∧ ShOkQ kv' xs' ∧ (pQ xs') = putG room (pQ xs) k u ∧ F2 = Blk sb (.cells [Value.int .i64 room, .map (some m), .pointer (fstPQ (xs') none), .pointer (lstPQ (xs') none)].toArray 55 (0, 0)) :: SegQ 102 none (xs') none :: MapG kvP m kv' :: F) := by
  rcases nd_splitQ (xs := xs) (k := k) with ⟨l1, ⟨b, k2, v2⟩, l2, rfl, rfl⟩ | h
  · obtain ⟨p1, p2, p3⟩ := pg_yes (vf := NdQ.v) hS.nd
    have g1 : goneG room (pQ (l1 ++ ⟨b, k2, v2⟩ :: l2)) k2 = none := by unfold goneG; rw [if_pos p1]
    have g2 : putG room (pQ (l1 ++ ⟨b, k2, v2⟩ :: l2)) k2 u = pQ (l1 ++ l2 ++ [⟨b, k2, u⟩]) := by unfold putG; rw [if_pos p1, p3]; exact (pg_snoc NdQ.k NdQ.v (l1 ++ l2) ⟨b, k2, u⟩).symm
    exact (put_yes_pt w0 F sb m room kv l1 l2 b k2 v2 u hS).gmono fun v F2 ⟨e1, e2⟩ => ⟨l1 ++ l2 ++ [⟨b, k2, u⟩], kv, by rw [e1, g1]; rfl, hS.move rfl rfl, g2.symm, e2⟩
  · obtain ⟨p1, p2⟩ := pg_no (kf := NdQ.k) (vf := NdQ.v) h
    have hk : ¬ hasG (pQ xs) k = true := by rw [p1]; decide
    by_cases hr : (xs.length : Int) = room
    · cases xs with
      | nil =>
        exact absurd hr (by simp only [List.length_nil]; omega)
      | cons x0 xs =>
        have g1 : goneG room (pQ (x0 :: xs)) k = some x0.k := by unfold goneG; rw [if_neg hk, if_pos (by rw [pQ_len]; exact hr)]; rfl
        exact (put_full_pt w0 F sb m room kv x0 xs k u hS h hr).gmono fun v F2 ⟨b, kv2, e1, e3, e2⟩ => ⟨_, kv2, by rw [e1, g1]; rfl, e3, by unfold putG; rw [if_neg hk, if_pos (by rw [pQ_len]; exact hr)]; exact pg_snoc NdQ.k NdQ.v xs ⟨b, k, u⟩, e2⟩
    · have g1 : goneG room (pQ xs) k = none := by unfold goneG; rw [if_neg hk, if_neg (by rw [pQ_len]; exact hr)]
      exact (put_new_pt w0 F sb m room kv xs k u hS h hr).gmono fun v F2 ⟨b, kv2, e1, e3, e2⟩ => ⟨_, kv2, by rw [e1, g1]; rfl, e3, by unfold putG; rw [if_neg hk, if_neg (by rw [pQ_len]; exact hr)]; exact pg_snoc NdQ.k NdQ.v xs ⟨b, k, u⟩, e2⟩
end Go.Proofs.YtjfibfbknfeflaaDoor.Fw
