import Derived.Test.YtjfibfbknfeflaaSSeq
namespace Go.Proofs.Ytjfibfbknfeflaa.Fw
open Go Go.Proofs
set_option linter.unusedVariables false
set_option linter.unusedSimpArgs false
set_option maxRecDepth 10000

/- Lists of pairs. -/
def pcV (p : Int × Int) : List Value := [.int .i64 p.1, .int .i64 p.2]
def prW (L : List (Int × Int)) : List Value := (L.map pcV).flatten
theorem pr_at {xs : List Nd} {j : Nat} (h : j < xs.length) : (pr xs)[j]? = some ((xs.map Nd.k).getD j 0, (xs.map fun x => vint x.v).getD j 0) := by
  simp [pr, h]
theorem prW_step {xs : List Nd} {i : Nat} (h : i < xs.length) : prW ((pr xs).take i) ++ [.int .i64 ((xs.map Nd.k).getD i 0), .int .i64 ((xs.map fun x => vint x.v).getD i 0)] = prW ((pr xs).take (i + 1)) := by
  unfold prW
  rw [List.take_add_one, pr_at h, List.map_append, List.flatten_append]
  rfl
theorem pc_len (L : List (Int × Int)) : ∀ r ∈ L.map pcV, r.length = 2 := by
  intro r hr
  obtain ⟨o, _, rfl⟩ := List.mem_map.1 hr
  rfl
theorem pw_row {w0 : World} {F : List Atom} {g n cap E q j : Nat} {P : List (Int × Int)} {xs : List Nd} [h : OwnIn F g E 2 n cap (prW P)] (hP : pr xs = P) (hj : j < xs.length) (hq : q = j) : RowAt w0 F g (0 + q * 2) [.int .i64 ((xs.map Nd.k).getD j 0), .int .i64 ((xs.map fun x => vint x.v).getD j 0)] := by
  subst hq hP
  exact row_elem (rows := (pr xs).map pcV) (.own h.mem) (pc_len _) (by rw [List.getElem?_map, pr_at hj]; rfl)
theorem own_shape {v : Value} {m : Nat} (h : (v = .slice none 0 0 ∧ m = 0) ∨ ∃ g cap, v = .slice (some ⟨g, 0, none⟩) m cap ∧ m ≤ cap) : ∃ a c, v = .slice a m c ∧ (m = 0 ∨ ∃ g, a = some ⟨g, 0, none⟩) := by
  rcases h with ⟨rfl, rfl⟩ | ⟨g, c, rfl, _⟩
  · exact ⟨none, 0, rfl, .inl rfl⟩
  · exact ⟨_, c, rfl, .inr ⟨g, rfl⟩⟩
theorem delK_len {L : List (Int × Int)} {k : Int} (h : hasK L k = true) : (delK L k).length + 1 ≤ L.length := by
  unfold hasK at h
  unfold delK
  induction L with
  | nil => simp at h
  | cons p l ih =>
    rw [List.filter_cons]
    by_cases hp : p.1 = k
    · rw [if_neg (by simp [hp])]
      have := List.length_filter_le (fun p : Int × Int => !decide (p.1 = k)) l
      simp only [List.length_cons]
      omega
    · have h2 : l.any (fun p => decide (p.1 = k)) = true := by
        rw [List.any_cons] at h
        simpa [hp] using h
      have := ih h2
      rw [if_pos (by simp [hp])]
      simp only [List.length_cons]
      omega
theorem put_len {room k v : Int} {xs y : List Nd} (hr : 1 ≤ room) (h : (xs.length : Int) ≤ room) (hp : pr y = putK room (pr xs) k v) : (y.length : Int) ≤ room := by
  have h1 := congrArg List.length hp
  rw [pr_len] at h1
  have h2 := pr_len xs
  unfold putK at h1
  split at h1
  · rename_i hk
    have := delK_len hk
    simp only [List.length_append, List.length_singleton] at h1
    omega
  · split at h1
    · simp only [List.length_append, List.length_singleton, List.length_drop] at h1
      omega
    · rename_i hne
      simp only [List.length_append, List.length_singleton] at h1
      omega
theorem pw_cell {w0 : World} {F : List Atom} {g n cap E : Nat} {xs : List Nd} [h : OwnIn F g E 2 n cap (prW (pr xs))] (hj : 0 < xs.length) : CellAt w0 F g 0 (.int .i64 ((xs.map Nd.k).getD 0 0)) := by
  have h1 := pw_row (w0 := w0) (F := F) (g := g) (q := 0) rfl hj rfl
  have h2 := h1.cell (j := 0) rfl
  simpa using h2

end Go.Proofs.Ytjfibfbknfeflaa.Fw
