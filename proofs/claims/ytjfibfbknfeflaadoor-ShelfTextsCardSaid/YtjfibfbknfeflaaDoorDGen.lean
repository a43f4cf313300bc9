import Derived.Test.YtjfibfbknfeflaaDoorDAwk
namespace Go.Proofs.YtjfibfbknfeflaaDoor.Fw
open Go Go.Proofs
set_option linter.unusedVariables false
set_option linter.unusedSimpArgs false
set_option maxRecDepth 10000

set_option linter.unusedSectionVars false
/- What the calls do to a row of keys and things, whatever they are. -/
section
variable {κ β α κ' β' : Type}
def pg (kf : α → κ) (vf : α → β) (xs : List α) : List (κ × β) := xs.map fun x => (kf x, vf x)
theorem pg_len (kf : α → κ) (vf : α → β) (xs : List α) : (pg kf vf xs).length = xs.length := by simp [pg]
theorem pg_app (kf : α → κ) (vf : α → β) (l1 l2 : List α) : pg kf vf (l1 ++ l2) = pg kf vf l1 ++ pg kf vf l2 := by simp [pg]
theorem pg_snoc (kf : α → κ) (vf : α → β) (xs : List α) (x : α) : pg kf vf (xs ++ [x]) = pg kf vf xs ++ [(kf x, vf x)] := by simp [pg]
theorem pg_keys (kf : α → κ) (vf : α → β) (xs : List α) : (pg kf vf xs).map (·.1) = xs.map kf := by simp [pg, Function.comp_def]
variable [DecidableEq κ] [DecidableEq κ']
def delG (L : List (κ × β)) (k : κ) : List (κ × β) := L.filter fun p => !decide (p.1 = k)
def hasG (L : List (κ × β)) (k : κ) : Bool := L.any fun p => decide (p.1 = k)
def valG (d : β) (L : List (κ × β)) (k : κ) : β := ((L.find? fun p => decide (p.1 = k)).map (·.2)).getD d
def putG (room : Int) (L : List (κ × β)) (k : κ) (v : β) : List (κ × β) := if hasG L k = true then delG L k ++ [(k, v)] else if (L.length : Int) = room then L.drop 1 ++ [(k, v)] else L ++ [(k, v)]
def getG (d : β) (L : List (κ × β)) (k : κ) : List (κ × β) := if hasG L k = true then delG L k ++ [(k, valG d L k)] else L
def goneG (room : Int) (L : List (κ × β)) (k : κ) : Option κ := if hasG L k = true then none else if (L.length : Int) = room then L.head?.map (·.1) else none
theorem delG_none {L : List (κ × β)} {k : κ} (h : ∀ p ∈ L, p.1 ≠ k) : delG L k = L := List.filter_eq_self.2 fun p hp => by simp [h p hp]
theorem hasG_none {L : List (κ × β)} {k : κ} (h : ∀ p ∈ L, p.1 ≠ k) : hasG L k = false := by
  unfold hasG
  rw [List.any_eq_false]
  intro p hp
  simp [h p hp]
theorem hasG_at {l1 l2 : List (κ × β)} {x : κ × β} : hasG (l1 ++ x :: l2) x.1 = true := by
  unfold hasG
  rw [List.any_eq_true]
  exact ⟨x, by simp, by simp⟩
theorem hasG_mem {L : List (κ × β)} {k : κ} : hasG L k = true ↔ k ∈ L.map (·.1) := by
  unfold hasG
  rw [List.any_eq_true]
  constructor
  · rintro ⟨p, hp, h⟩
    exact List.mem_map.2 ⟨p, hp, by simpa using h⟩
  · intro h
    obtain ⟨p, hp, e⟩ := List.mem_map.1 h
    exact ⟨p, hp, by simp [e]⟩
theorem nodup_apart {l1 l2 : List (κ × β)} {x : κ × β} (h : ((l1 ++ x :: l2).map (·.1)).Nodup) : (∀ y ∈ l1, y.1 ≠ x.1) ∧ ∀ y ∈ l2, y.1 ≠ x.1 := by
  rw [List.map_append, List.map_cons, List.nodup_append] at h
  obtain ⟨_, h2, h3⟩ := h
  refine ⟨fun y hy e => h3 y.1 (List.mem_map.2 ⟨y, hy, rfl⟩) x.1 (List.mem_cons_self ..) e, fun y hy e => ?_⟩
  exact (List.nodup_cons.1 h2).1 (List.mem_map.2 ⟨y, hy, e⟩)
theorem delG_at {l1 l2 : List (κ × β)} {x : κ × β} (h : ((l1 ++ x :: l2).map (·.1)).Nodup) : delG (l1 ++ x :: l2) x.1 = l1 ++ l2 := by
  obtain ⟨h1, h2⟩ := nodup_apart h
  have e1 := delG_none h1
  have e2 := delG_none h2
  unfold delG at e1 e2 ⊢
  rw [List.filter_append, e1, List.filter_cons, if_neg (by simp), e2]
theorem valG_at {d : β} {l1 l2 : List (κ × β)} {x : κ × β} (h : ((l1 ++ x :: l2).map (·.1)).Nodup) : valG d (l1 ++ x :: l2) x.1 = x.2 := by
  obtain ⟨h1, h2⟩ := nodup_apart h
  unfold valG
  rw [List.find?_append]
  have : l1.find? (fun p => decide (p.1 = x.1)) = none := by
    rw [List.find?_eq_none]
    intro p hp
    simp [h1 p hp]
  rw [this]
  show ((List.find? (fun p => decide (p.1 = x.1)) (x :: l2)).map (·.2)).getD d = _
  rw [List.find?_cons_of_pos (by simp)]
  rfl
theorem valG_none {d : β} {L : List (κ × β)} {k : κ} (h : hasG L k = false) : valG d L k = d := by
  have : L.find? (fun p => decide (p.1 = k)) = none := by
    rw [List.find?_eq_none]
    intro p hp e
    unfold hasG at h
    rw [List.any_eq_false] at h
    exact h p hp e
  unfold valG
  rw [this]
  rfl
theorem split_at {L : List (κ × β)} {j : Nat} {p : κ × β} (h : L[j]? = some p) : L = L.take j ++ p :: L.drop (j + 1) ∧ L.eraseIdx j = L.take j ++ L.drop (j + 1) := by
  obtain ⟨hj, rfl⟩ := List.getElem?_eq_some_iff.1 h
  exact ⟨by rw [List.getElem_cons_drop, List.take_append_drop], List.eraseIdx_eq_take_drop_succ ..⟩
theorem erase_del {L : List (κ × β)} {j : Nat} {p : κ × β} (hn : (L.map (·.1)).Nodup) (h : L[j]? = some p) : L.eraseIdx j = delG L p.1 ∧ hasG L p.1 = true ∧ ∀ d, valG d L p.1 = p.2 := by
  obtain ⟨e1, e2⟩ := split_at h
  have h1 := hn
  rw [e1] at h1
  have h2 := delG_at h1
  have h3 : ∀ d, valG d (L.take j ++ p :: L.drop (j + 1)) p.1 = p.2 := fun d => valG_at h1
  have h4 := hasG_at (l1 := L.take j) (l2 := L.drop (j + 1)) (x := p)
  rw [← e1] at h2 h3 h4
  exact ⟨by rw [e2, h2], h4, h3⟩
theorem delG_nodup {L : List (κ × β)} (hn : (L.map (·.1)).Nodup) (k : κ) : ((delG L k).map (·.1)).Nodup := hn.sublist ((List.filter_sublist ..).map _)
theorem delG_out {L : List (κ × β)} {k : κ} : k ∉ (delG L k).map (·.1) := fun h => by
  obtain ⟨p, hp, e⟩ := List.mem_map.1 h
  have := (List.mem_filter.1 hp).2
  simp [e] at this
theorem snoc_nodup {L : List (κ × β)} {k : κ} {v : β} (hn : (L.map (·.1)).Nodup) (h : k ∉ L.map (·.1)) : ((L ++ [(k, v)]).map (·.1)).Nodup := by
  rw [List.map_append, List.nodup_append]
  refine ⟨hn, by simp, fun a ha b hb e => ?_⟩
  simp at hb
  exact h (by rw [← hb, ← e]; exact ha)
theorem putG_nodup {room : Int} {L : List (κ × β)} (hn : (L.map (·.1)).Nodup) (k : κ) (v : β) : ((putG room L k v).map (·.1)).Nodup := by
  unfold putG
  split
  · exact snoc_nodup (delG_nodup hn k) delG_out
  · rename_i h
    have h2 : k ∉ L.map (·.1) := fun hm => h (hasG_mem.2 hm)
    split
    · exact snoc_nodup (hn.sublist ((List.drop_sublist ..).map _)) fun hm => h2 ((List.drop_sublist ..).map _ |>.subset hm)
    · exact snoc_nodup hn h2
theorem getG_put {d : β} {room : Int} {L : List (κ × β)} {k : κ} (h : hasG L k = true) : getG d L k = putG room L k (valG d L k) := by
  unfold getG putG
  rw [if_pos h, if_pos h]
theorem delG_len {L : List (κ × β)} {k : κ} (h : hasG L k = true) : (delG L k).length + 1 ≤ L.length := by
  unfold hasG at h
  unfold delG
  induction L with
  | nil => simp at h
  | cons p l ih =>
    rw [List.filter_cons]
    by_cases hp : p.1 = k
    · rw [if_neg (by simp [hp])]
      have := List.length_filter_le (fun p : κ × β => !decide (p.1 = k)) l
      simp only [List.length_cons]
      omega
    · have h2 : l.any (fun p => decide (p.1 = k)) = true := by
        rw [List.any_cons] at h
        simpa [hp] using h
      have := ih h2
      rw [if_pos (by simp [hp])]
      simp only [List.length_cons]
      omega
theorem delG_le (L : List (κ × β)) (k : κ) : (delG L k).length ≤ L.length := List.length_filter_le ..
theorem putG_len {room : Int} {L : List (κ × β)} {k : κ} {v : β} (hr : 1 ≤ room) (h : (L.length : Int) ≤ room) : ((putG room L k v).length : Int) ≤ room := by
  unfold putG
  split
  · rename_i hk
    have := delG_len hk
    simp only [List.length_append, List.length_singleton]
    omega
  · split
    · simp only [List.length_append, List.length_singleton, List.length_drop]
      omega
    · simp only [List.length_append, List.length_singleton]
      omega
theorem getG_len {d : β} {room : Int} {L : List (κ × β)} {k : κ} (h : (L.length : Int) ≤ room) : ((getG d L k).length : Int) ≤ room := by
  unfold getG
  split
  · rename_i hk
    have := delG_len hk
    simp only [List.length_append, List.length_singleton]
    omega
  · exact h
theorem pg_yes {kf : α → κ} {vf : α → β} {l1 l2 : List α} {x : α} (h : ((l1 ++ x :: l2).map kf).Nodup) : hasG (pg kf vf (l1 ++ x :: l2)) (kf x) = true ∧ (∀ d, valG d (pg kf vf (l1 ++ x :: l2)) (kf x) = vf x) ∧ delG (pg kf vf (l1 ++ x :: l2)) (kf x) = pg kf vf (l1 ++ l2) := by
  have e : pg kf vf (l1 ++ x :: l2) = pg kf vf l1 ++ (kf x, vf x) :: pg kf vf l2 := pg_app ..
  rw [← pg_keys kf vf, e] at h
  rw [e]
  exact ⟨hasG_at (x := (kf x, vf x)), fun d => valG_at (x := (kf x, vf x)) h, (delG_at (x := (kf x, vf x)) h).trans (pg_app ..).symm⟩
theorem pg_no {kf : α → κ} {vf : α → β} {xs : List α} {k : κ} (h : ∀ x ∈ xs, kf x ≠ k) : hasG (pg kf vf xs) k = false ∧ delG (pg kf vf xs) k = pg kf vf xs := by
  have : ∀ p ∈ pg kf vf xs, p.1 ≠ k := fun p hp => by
    obtain ⟨x, hx, rfl⟩ := List.mem_map.1 hp
    exact h x hx
  exact ⟨hasG_none this, delG_none this⟩
/- The same under other names. -/
def mp (f : κ → κ') (g : β → β') (L : List (κ × β)) : List (κ' × β') := L.map fun p => (f p.1, g p.2)
variable {f : κ → κ'} {g : β → β'}
theorem mp_len (L : List (κ × β)) : (mp f g L).length = L.length := by simp [mp]
theorem delG_mp (hf : ∀ a b, f a = f b → a = b) (L : List (κ × β)) (k : κ) : delG (mp f g L) (f k) = mp f g (delG L k) := by
  unfold delG mp
  rw [List.filter_map]
  congr 1
  refine List.filter_congr fun p _ => ?_
  by_cases h : p.1 = k
  · simp [h]
  · have : f p.1 ≠ f k := fun e => h (hf _ _ e)
    simp [h, this]
theorem hasG_mp (hf : ∀ a b, f a = f b → a = b) (L : List (κ × β)) (k : κ) : hasG (mp f g L) (f k) = hasG L k := by
  unfold hasG mp
  rw [List.any_map]
  congr 1
  funext p
  by_cases h : p.1 = k
  · simp [h]
  · have : f p.1 ≠ f k := fun e => h (hf _ _ e)
    simp [h, this]
theorem valG_mp (hf : ∀ a b, f a = f b → a = b) (d : β) (d' : β') (L : List (κ × β)) (k : κ) (h : hasG L k = true) : valG d' (mp f g L) (f k) = g (valG d L k) := by
  unfold valG
  obtain ⟨p, hp⟩ : ∃ p, L.find? (fun p => decide (p.1 = k)) = some p := by
    cases hq : L.find? (fun p => decide (p.1 = k)) with
    | some p => exact ⟨p, rfl⟩
    | none =>
      rw [List.find?_eq_none] at hq
      unfold hasG at h
      obtain ⟨p, hp, e⟩ := List.any_eq_true.1 h
      exact absurd e (hq p hp)
  have : (mp f g L).find? (fun p => decide (p.1 = f k)) = some (f p.1, g p.2) := by
    unfold mp
    rw [List.find?_map]
    have e : ((fun p : κ' × β' => decide (p.1 = f k)) ∘ fun p : κ × β => (f p.1, g p.2)) = fun p => decide (p.1 = k) := by
      funext p
      by_cases h : p.1 = k
      · simp [h]
      · have : f p.1 ≠ f k := fun e => h (hf _ _ e)
        simp [h, this]
    rw [e, hp]
    rfl
  rw [this, hp]
  rfl
theorem putG_mp (hf : ∀ a b, f a = f b → a = b) (room : Int) (L : List (κ × β)) (k : κ) (v : β) : putG room (mp f g L) (f k) (g v) = mp f g (putG room L k v) := by
  unfold putG
  rw [hasG_mp hf, delG_mp hf, mp_len]
  split
  · simp [mp]
  · split
    · simp [mp]
    · simp [mp]
theorem getG_mp (hf : ∀ a b, f a = f b → a = b) (d : β) (d' : β') (L : List (κ × β)) (k : κ) : getG d' (mp f g L) (f k) = mp f g (getG d L k) := by
  unfold getG
  rw [hasG_mp hf, delG_mp hf]
  split
  · rename_i h
    rw [valG_mp hf d d' L k h]
    simp [mp]
  · rfl
theorem goneG_mp (hf : ∀ a b, f a = f b → a = b) (room : Int) (L : List (κ × β)) (k : κ) : goneG room (mp f g L) (f k) = (goneG room L k).map f := by
  unfold goneG
  rw [hasG_mp hf, mp_len]
  split
  · rfl
  · split
    · cases L <;> simp [mp]
    · rfl
end
def strs (K : List ByteArray) : List Value := K.map Value.string
theorem strs_scalar (K : List ByteArray) : (strs K).all scalar = true := by simp [strs, scalar]
theorem bytes_inj {a b : ByteArray} (h : a.toList = b.toList) : a = b := by
  rw [ByteArray.toList_eq, ByteArray.toList_eq] at h
  obtain ⟨⟨x⟩⟩ := a
  obtain ⟨⟨y⟩⟩ := b
  simp at h
  rw [h]
theorem bytes_eq (a b : ByteArray) : (a.toList == b.toList) = decide (a = b) := by
  by_cases h : a = b
  · subst h; simp
  · have : a.toList ≠ b.toList := fun e => h (bytes_inj e)
    simp [h, this]
theorem str_cell {w0 : World} {F : List Atom} {g n cap E q j : Nat} {K : List ByteArray} {s : ByteArray} [h : OwnIn F g E 1 n cap (strs K)] (hj : K[j]? = some s) (hq : q = j) : CellAt w0 F g (0 + q * 1) (.string s) := by
  subst hq
  have h1 := (RowAt.own (w0 := w0) h.mem).cell (j := q) (v := .string s) (by simp [strs, hj])
  simpa using h1

def vstr : Value → ByteArray
  | .string s => s
  | _ => ⟨#[]⟩
abbrev prs (xs : List Nd) : List (Int × ByteArray) := pg Nd.k (fun x : Nd => vstr x.v) xs
def VSt (xs : List Nd) : Prop := ∀ x ∈ xs, x.v = .string (vstr x.v)
theorem VSt.mid {l1 l2 : List Nd} {x : Nd} (h : VSt (l1 ++ x :: l2)) : VSt (l1 ++ l2) := fun y hy => h y (by
  rcases List.mem_append.1 hy with hy | hy
  · exact List.mem_append_left _ hy
  · exact List.mem_append_right _ (List.mem_cons_of_mem _ hy))
theorem VSt.snoc {xs : List Nd} {x : Nd} (h : VSt xs) (hx : x.v = .string (vstr x.v)) : VSt (xs ++ [x]) := fun y hy => by
  rcases List.mem_append.1 hy with hy | hy
  · exact h y hy
  · obtain rfl := List.mem_singleton.1 hy
    exact hx
theorem fst_some {xs : List Nd} (h : (!(fstP xs none).isNone) = true) : ∃ x l, xs = x :: l := by
  cases xs with
  | nil => cases h
  | cons x l => exact ⟨x, l, rfl⟩
theorem fst_none {xs : List Nd} (h : (!(fstP xs none).isNone) = false) : xs = [] := by
  cases xs with
  | nil => rfl
  | cons x l => cases h
theorem peek_any (w0 : World) (F : List Atom) (sb m : Nat) (room : Int) (kv : List (Int × Value)) (xs : List Nd) (hS : ShOk kv xs) (hV : VSt xs) (k : Int) : CallK Tryd.prog 41 [.pointer (some ⟨sb, 0, none⟩), .int .i64 k] w0 (Blk sb (.cells [Value.int .i64 room, .map (some m), .pointer (fstP (xs) none), .pointer (lstP (xs) none)].toArray 79 (0, 0)) :: Seg 106 none (xs) none :: MapI m kv :: F) (Gives w0 fun v F2 => v = .tuple #[.string (valG ⟨#[]⟩ (prs xs) k), .bool (hasG (prs xs) k)] ∧ F2 = Blk sb (.cells [Value.int .i64 room, .map (some m), .pointer (fstP (xs) none), .pointer (lstP (xs) none)].toArray 79 (0, 0)) :: Seg 106 none (xs) none :: MapI m kv :: F) := by
  rcases nd_split (xs := xs) (k := k) with ⟨l1, x, l2, rfl, rfl⟩ | h
  · obtain ⟨p1, p2, p3⟩ := pg_yes (vf := fun x : Nd => vstr x.v) hS.nd
    exact (peek_yes_is w0 F sb m room kv l1 l2 x hS).gmono fun v F2 ⟨e1, e2⟩ => ⟨by rw [e1, p1, p2, hV x (by simp)]; rfl, e2⟩
  · obtain ⟨p1, p2⟩ := pg_no (kf := Nd.k) (vf := fun x : Nd => vstr x.v) h
    exact (peek_no_is w0 F sb m room kv xs hS k h).gmono fun v F2 ⟨e1, e2⟩ => ⟨by rw [e1, p1, valG_none p1], e2⟩
theorem get_any (w0 : World) (F : List Atom) (sb m : Nat) (room : Int) (kv : List (Int × Value)) (xs : List Nd) (hS : ShOk kv xs) (hV : VSt xs) (k : Int) : CallK Tryd.prog 40 [.pointer (some ⟨sb, 0, none⟩), .int .i64 k] w0 (Blk sb (.cells [Value.int .i64 room, .map (some m), .pointer (fstP (xs) none), .pointer (lstP (xs) none)].toArray 79 (0, 0)) :: Seg 106 none (xs) none :: MapI m kv :: F) (Gives w0 fun v F2 => ∃ xs', v = .tuple #[.string (valG ⟨#[]⟩ (prs xs) k), .bool (hasG (prs xs) k)] ∧ ShOk kv xs' ∧ VSt xs' ∧ prs xs' = getG ⟨#[]⟩ (prs xs) k ∧ F2 = Blk sb (.cells [Value.int .i64 room, .map (some m), .pointer (fstP (xs') none), .pointer (lstP (xs') none)].toArray 79 (0, 0)) :: Seg 106 none (xs') none :: MapI m kv :: F) := by
  rcases nd_split (xs := xs) (k := k) with ⟨l1, x, l2, rfl, rfl⟩ | h
  · obtain ⟨p1, p2, p3⟩ := pg_yes (vf := fun x : Nd => vstr x.v) hS.nd
    exact (get_yes_is w0 F sb m room kv l1 l2 x hS).gmono fun v F2 ⟨e1, e2⟩ => ⟨l1 ++ l2 ++ [x], by rw [e1, p1, p2, hV x (by simp)]; rfl, hS.move rfl rfl, (hV.mid).snoc (hV x (by simp)), by unfold getG; rw [if_pos p1, p2, p3]; exact pg_snoc Nd.k (fun x : Nd => vstr x.v) (l1 ++ l2) x, e2⟩
  · obtain ⟨p1, p2⟩ := pg_no (kf := Nd.k) (vf := fun x : Nd => vstr x.v) h
    exact (get_no_is w0 F sb m room kv xs hS k h).gmono fun v F2 ⟨e1, e2⟩ => ⟨xs, by rw [e1, p1, valG_none p1], hS, hV, by unfold getG; rw [if_neg (by rw [p1]; decide)], e2⟩
theorem drop_any (w0 : World) (F : List Atom) (sb m : Nat) (room : Int) (kv : List (Int × Value)) (xs : List Nd) (hS : ShOk kv xs) (hV : VSt xs) (k : Int) : CallK Tryd.prog 42 [.pointer (some ⟨sb, 0, none⟩), .int .i64 k] w0 (Blk sb (.cells [Value.int .i64 room, .map (some m), .pointer (fstP (xs) none), .pointer (lstP (xs) none)].toArray 79 (0, 0)) :: Seg 106 none (xs) none :: MapI m kv :: F) (Gives w0 fun v F2 => ∃ xs' kv', v = .bool (hasG (prs xs) k) ∧ ShOk kv' xs' ∧ VSt xs' ∧ prs xs' = delG (prs xs) k ∧ F2 = Blk sb (.cells [Value.int .i64 room, .map (some m), .pointer (fstP (xs') none), .pointer (lstP (xs') none)].toArray 79 (0, 0)) :: Seg 106 none (xs') none :: MapI m kv' :: F) := by
  rcases nd_split (xs := xs) (k := k) with ⟨l1, x, l2, rfl, rfl⟩ | h
  · obtain ⟨p1, p2, p3⟩ := pg_yes (vf := fun x : Nd => vstr x.v) hS.nd
    exact (drop_yes_is w0 F sb m room kv l1 l2 x hS).gmono fun v F2 ⟨kv2, e1, e3, e2⟩ => ⟨l1 ++ l2, kv2, by rw [e1, p1], e3, hV.mid, p3.symm, e2⟩
  · obtain ⟨p1, p2⟩ := pg_no (kf := Nd.k) (vf := fun x : Nd => vstr x.v) h
    exact (drop_no_is w0 F sb m room kv xs hS k h).gmono fun v F2 ⟨e1, e2⟩ => ⟨xs, kv, by rw [e1, p1], hS, hV, p2.symm, e2⟩
theorem put_any (w0 : World) (F : List Atom) (sb m : Nat) (room : Int) (kv : List (Int × Value)) (xs : List Nd) (hS : ShOk kv xs) (hV : VSt xs) (k : Int) (u : ByteArray) (hroom : 1 ≤ room) : CallK Tryd.prog 39 [.pointer (some ⟨sb, 0, none⟩), .int .i64 k, .string u] w0 (Blk sb (.cells [Value.int .i64 room, .map (some m), .pointer (fstP (xs) none), .pointer (lstP (xs) none)].toArray 79 (0, 0)) :: Seg 106 none (xs) none :: MapI m kv :: F) (Gives w0 fun v F2 => ∃ xs' kv', v = .tuple #[.int .i64 ((goneG room (prs xs) k).getD 0), .bool (goneG room (prs xs) k).isSome] ∧ ShOk kv' xs' ∧ VSt xs' ∧ prs xs' = putG room (prs xs) k u ∧ F2 = Blk sb (.cells [Value.int .i64 room, .map (some m), .pointer (fstP (xs') none), .pointer (lstP (xs') none)].toArray 79 (0, 0)) :: Seg 106 none (xs') none :: MapI m kv' :: F) := by
  rcases nd_split (xs := xs) (k := k) with ⟨l1, ⟨b, k2, v2⟩, l2, rfl, rfl⟩ | h
  · have hv := hV ⟨b, k2, v2⟩ (by simp)
    simp only at hv
    obtain ⟨p1, p2, p3⟩ := pg_yes (vf := fun x : Nd => vstr x.v) hS.nd
    have g1 : goneG room (prs (l1 ++ ⟨b, k2, v2⟩ :: l2)) k2 = none := by unfold goneG; rw [if_pos p1]
    have g2 : putG room (prs (l1 ++ ⟨b, k2, v2⟩ :: l2)) k2 u = prs (l1 ++ l2 ++ [⟨b, k2, .string u⟩]) := by unfold putG; rw [if_pos p1, p3]; exact (pg_snoc Nd.k (fun x : Nd => vstr x.v) (l1 ++ l2) ⟨b, k2, .string u⟩).symm
    have hm := hV.mid
    rw [hv] at hS g1 g2 ⊢
    exact (put_yes_is w0 F sb m room kv l1 l2 b k2 (vstr v2) u hS).gmono fun v F2 ⟨e1, e2⟩ => ⟨l1 ++ l2 ++ [⟨b, k2, .string u⟩], kv, by rw [e1, g1]; rfl, hS.move rfl rfl, hm.snoc rfl, g2.symm, e2⟩
  · obtain ⟨p1, p2⟩ := pg_no (kf := Nd.k) (vf := fun x : Nd => vstr x.v) h
    have hk : ¬ hasG (prs xs) k = true := by rw [p1]; decide
    by_cases hr : (xs.length : Int) = room
    · cases xs with
      | nil =>
        exact absurd hr (by simp only [List.length_nil]; omega)
      | cons x0 xs =>
        have g1 : goneG room (prs (x0 :: xs)) k = some x0.k := by unfold goneG; rw [if_neg hk, if_pos (by rw [pg_len]; exact hr)]; rfl
        exact (put_full_is w0 F sb m room kv x0 xs k u hS h hr).gmono fun v F2 ⟨b, kv2, e1, e3, e2⟩ => ⟨_, kv2, by rw [e1, g1]; rfl, e3, VSt.snoc (fun y hy => hV y (List.mem_cons_of_mem _ hy)) rfl, by unfold putG; rw [if_neg hk, if_pos (by rw [pg_len]; exact hr)]; exact pg_snoc Nd.k (fun x : Nd => vstr x.v) xs ⟨b, k, .string u⟩, e2⟩
    · have g1 : goneG room (prs xs) k = none := by unfold goneG; rw [if_neg hk, if_neg (by rw [pg_len]; exact hr)]
      exact (put_new_is w0 F sb m room kv xs k u hS h hr).gmono fun v F2 ⟨b, kv2, e1, e3, e2⟩ => ⟨_, kv2, by rw [e1, g1]; rfl, e3, hV.snoc rfl, by unfold putG; rw [if_neg hk, if_neg (by rw [pg_len]; exact hr)]; exact pg_snoc Nd.k (fun x : Nd => vstr x.v) xs ⟨b, k, .string u⟩, e2⟩
theorem clear_ok (w0 : World) (F : List Atom) (sb m : Nat) (room : Int) (kv : List (Int × Value)) (xs : List Nd) (hS : ShOk kv xs) :
    CallK Tryd.prog 43 [.pointer (some ⟨sb, 0, none⟩)] w0 (Blk sb (.cells [Value.int .i64 room, .map (some m), .pointer (fstP (xs) none), .pointer (lstP (xs) none)].toArray 79 (0, 0)) :: Seg 106 none (xs) none :: MapI m kv :: F) (Gives w0 fun v F2 => F2 = Blk sb (.cells [Value.int .i64 room, .map (some m), .pointer (fstP ([]) none), .pointer (lstP ([]) none)].toArray 79 (0, 0)) :: Seg 106 none ([]) none :: MapI m [] :: F) := by
  refine c_enter Tryd.func43 rfl rfl rfl ?_
  refine g_seq ?_
  refine g_seq ?_
  refine g_region ?_
  refine l_move rfl rfl ?_
  refine l_eqpn rfl Tryd.underlying42 rfl rfl ?_
  refine l_nil ?_
  refine g_cond_f rfl ?_
  refine g_skip ?_
  refine g_block ?_
  refine g_loopk (X := List Nd × List (Int × Value)) [(0, _)] (.cons rfl (.nil)) (fun z => ShOk z.2 z.1) (fun z => z.1.length) (fun z => []) (fun z => Blk sb (.cells [Value.int .i64 room, .map (some m), .pointer (fstP (z.1) none), .pointer (lstP (z.1) none)].toArray 79 (0, 0)) :: Seg 106 none (z.1) none :: MapI m z.2 :: F) ((xs, kv)) (hS) (.nil) (fun w hw => hw) ?_
  rintro ⟨xs, kv⟩ hS ih
  dsimp only [List.cons_append, List.nil_append] at ih ⊢
  simp only at hS
  refine g_seq ?_
  refine g_seq ?_
  refine g_region ?_
  refine l_move rfl rfl ?_
  refine l_nilCheck rfl rfl ?_
  refine l_fieldAddr rfl fa_79_2 rfl ?_
  refine l_ld rfl Tryd.isAgg77 rfl rfl ?_
  refine l_nepn rfl Tryd.underlying77 rfl rfl ?_
  refine l_nil ?_
  refine g_cond rfl ?_ ?_
  · intro hbr
    have hb8 := hbr
    refine g_skip ?_
    refine g_block ?_
    refine g_region ?_
    obtain ⟨x, xs, rfl⟩ := fst_some hb8
    refine l_move rfl rfl ?_
    refine l_move rfl rfl ?_
    refine l_nilCheck rfl rfl ?_
    refine l_fieldAddr rfl fa_79_2 rfl ?_
    refine l_ld rfl Tryd.isAgg77 rfl rfl ?_
    refine l_nilCheck rfl rfl ?_
    refine l_fieldAddr rfl fa_106_0 rfl ?_
    refine l_loadc (v := .int .i64 x.k) rfl Tryd.isAgg3 rfl (seg_cell (l1 := []) (l2 := xs) (x := x) (show Seg 106 none (x :: xs) none ∈ _ from (by first | exact mem_getO 0 rfl | exact mem_getO 1 rfl | exact mem_getO 2 rfl | exact mem_getO 3 rfl | exact mem_getO 4 rfl | exact mem_getO 5 rfl)) (o := 0) rfl) ?_
    refine l_call rfl Tryd.call42 rfl (drop_yes_is _ _ sb m room kv [] xs x hS) ?_; rintro _ _ ⟨kv2, rfl, hS2, rfl⟩
    rw [List.nil_append] at hS2 ⊢
    refine l_nil ?_
    refine g_inBlock ?_
    exact g_againi (ih (xs, kv2) hS2 (by simp only [List.length_cons]; omega)) (.cons rfl (.nil))
  intro hbr
  have hb8 := hbr
  refine g_exit rfl ?_
  obtain rfl := fst_none hb8
  obtain rfl : kv = [] := List.length_eq_zero_iff.1 hS.len
  refine g_end Tryd.func43 rfl .nil ?_
  exact Gives.mki rfl
theorem room_ok (w0 : World) (F : List Atom) (sb m : Nat) (room : Int) (kv : List (Int × Value)) (xs : List Nd) :
    CallK Tryd.prog 18 [.pointer (some ⟨sb, 0, none⟩)] w0 (Blk sb (.cells [Value.int .i64 room, .map (some m), .pointer (fstP (xs) none), .pointer (lstP (xs) none)].toArray 79 (0, 0)) :: Seg 106 none (xs) none :: MapI m kv :: F) (Gives w0 fun v F2 => v = .int .i64 room ∧ F2 = Blk sb (.cells [Value.int .i64 room, .map (some m), .pointer (fstP (xs) none), .pointer (lstP (xs) none)].toArray 79 (0, 0)) :: Seg 106 none (xs) none :: MapI m kv :: F) := by
  refine c_enter Tryd.func18 rfl rfl rfl ?_
  refine g_seq ?_
  refine g_region ?_
  refine l_assign rfl rfl ?_
  refine l_nil ?_
  refine g_seq ?_
  refine g_seq ?_
  refine g_region ?_
  refine l_move rfl rfl ?_
  refine l_eqpn rfl Tryd.underlying42 rfl rfl ?_
  refine l_nil ?_
  refine g_cond_f rfl ?_
  refine g_skip ?_
  refine g_seq ?_
  refine g_region ?_
  refine l_move rfl rfl ?_
  refine l_nilCheck rfl rfl ?_
  refine l_fieldAddr rfl fa_79_0 rfl ?_
  first | refine l_ld rfl Tryd.isAgg3 rfl rfl ?_ | refine l_ldw rfl Tryd.isAgg3 rfl (by omega) ?_
  refine l_assign rfl rfl ?_
  refine l_nil ?_
  refine g_ret Tryd.func18 rfl (.tmp rfl .nil) ?_
  exact Gives.mki ⟨rfl, rfl⟩
end Go.Proofs.YtjfibfbknfeflaaDoor.Fw
