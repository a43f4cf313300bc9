import Derived.Test.YtlgcghhjgcdigaaRef5
namespace Go.Proofs.Ytlgcghhjgcdigaa.Fw
open Go Go.Proofs
set_option linter.unusedVariables false
set_option linter.unusedSimpArgs false
set_option maxRecDepth 10000

def eR (n : Nat) (a k : Int) : Int := if inR n a k then 0 else 51
def rdV (W : List Int) (n : Nat) (a : Int) : Int := if inR n a 1 then W.getD a.toNat 0 else 0
def wrW (W : List Int) (n : Nat) (a x : Int) : List Int := if inR n a 1 then W.set a.toNat x else W
def tkW (W : List Int) (n : Nat) (a k : Int) : List Int := if inR n a k then part W a k else []
def tkN (n : Nat) (a k : Int) : Nat := if inR n a k then k.toNat else 0
def lyW (W Y : List Int) (n : Nat) (a : Int) : List Int := if inR n a Y.length then spl a.toNat Y W else W
def flW (W : List Int) (n : Nat) (a k x : Int) : List Int := if inR n a k then spl a.toNat (List.replicate k.toNat x) W else W
def mvW (W : List Int) (n : Nat) (a f k : Int) : List Int := if inR n a k ∧ inR n f k then spl a.toNat (part W f k) W else W
def eM (n : Nat) (a f k : Int) : Int := if inR n a k ∧ inR n f k then 0 else 51
theorem tk_len {W : List Int} {n : Nat} (hW : W.length = n) (a k : Int) : (tkW W n a k).length = tkN n a k := by
  unfold tkW tkN
  split
  · rename_i h; exact part_len hW h
  · rfl
theorem tk_w {W : List Int} (h : W32s W) (n : Nat) (a k : Int) : W32s (tkW W n a k) := by
  unfold tkW
  split
  · exact part_w32 h _ _
  · intro i; simp
theorem tk_le {n : Nat} (a k : Int) : tkN n a k ≤ n := by
  unfold tkN
  split
  · rename_i h; unfold inR at h; omega
  · omega
theorem gives_nil {w0 : World} {F0 F : List Atom} {x : Value} {en : Ending} (E : Nat) (h : Gives w0 (fun v F2 => v = x ∧ F2 = F0) en F) {R : Value → List Atom → Prop} (hR : R x (Own E 1 (.slice none 0 0) 0 [] :: F0)) : Gives w0 R en F := by
  obtain ⟨v, F2, he, ⟨rfl, rfl⟩, hp⟩ := h
  exact ⟨_, _, he, hR, fun w hw => (hp w hw).own_nil E 1⟩
theorem read_any (w0 : World) (F : List Atom) (b g n c : Nat) (W : List Int) (hW : W.length = n) (hc : n ≤ c) (hn : n ≤ 1073741824) (a : Int) (a0 : -9223372036854775808 ≤ a) (a1 : a ≤ 9223372036854775807) : CallK Try.prog 12 [.pointer (some ⟨b, 0, none⟩), .int .i64 a] w0 (Blk b (.cells [Value.slice (some ⟨g, 0, none⟩) n c].toArray 77 (0, 0)) :: Own 30 1 (.slice (some ⟨g, 0, none⟩) n c) n (ints .u32 W) :: F) (Gives w0 fun v F2 => v = .tuple #[.int .u32 (rdV W n a), .int .i64 (eR n a 1)] ∧ F2 = Blk b (.cells [Value.slice (some ⟨g, 0, none⟩) n c].toArray 77 (0, 0)) :: Own 30 1 (.slice (some ⟨g, 0, none⟩) n c) n (ints .u32 W) :: F) := by
  by_cases h : inR n a 1
  · refine (read_ok w0 F b g n c W hW hc hn a a1 h).gmono fun v F2 ⟨e1, e2⟩ => ⟨?_, ?_⟩
    · rw [e1] <;> simp only [rdV, eR, if_pos h]
    · rw [e2] <;> simp only [rdV, eR, if_pos h]
  · refine (read_bad w0 F b g n c W hW hc hn a a0 a1 h).gmono fun v F2 ⟨e1, e2⟩ => ⟨?_, ?_⟩
    · rw [e1] <;> simp only [rdV, eR, if_neg h]
    · rw [e2] <;> simp only [rdV, eR, if_neg h]
theorem write_any (w0 : World) (F : List Atom) (b g n c : Nat) (W : List Int) (hW : W.length = n) (hc : n ≤ c) (hn : n ≤ 1073741824) (a : Int) (a0 : -9223372036854775808 ≤ a) (a1 : a ≤ 9223372036854775807) (x : Int) : CallK Try.prog 10 [.pointer (some ⟨b, 0, none⟩), .int .i64 a, .int .u32 x] w0 (Blk b (.cells [Value.slice (some ⟨g, 0, none⟩) n c].toArray 77 (0, 0)) :: Own 30 1 (.slice (some ⟨g, 0, none⟩) n c) n (ints .u32 W) :: F) (Gives w0 fun v F2 => v = .int .i64 (eR n a 1) ∧ F2 = Blk b (.cells [Value.slice (some ⟨g, 0, none⟩) n c].toArray 77 (0, 0)) :: Own 30 1 (.slice (some ⟨g, 0, none⟩) n c) n (ints .u32 (wrW W n a x)) :: F) := by
  by_cases h : inR n a 1
  · refine (write_ok w0 F b g n c W hW hc hn a x a1 h).gmono fun v F2 ⟨e1, e2⟩ => ⟨?_, ?_⟩
    · rw [e1] <;> simp only [wrW, eR, if_pos h]
    · rw [e2] <;> simp only [wrW, eR, if_pos h]
  · refine (write_bad w0 F b g n c W hW hc hn x a a0 a1 h).gmono fun v F2 ⟨e1, e2⟩ => ⟨?_, ?_⟩
    · rw [e1] <;> simp only [wrW, eR, if_neg h]
    · rw [e2] <;> simp only [wrW, eR, if_neg h]
theorem fill_any (w0 : World) (F : List Atom) (b g n c : Nat) (W : List Int) (hW : W.length = n) (hc : n ≤ c) (hn : n ≤ 1073741824) (a : Int) (a0 : -9223372036854775808 ≤ a) (a1 : a ≤ 9223372036854775807) (k : Int) (k0 : -9223372036854775808 ≤ k) (k1 : k ≤ 9223372036854775807) (x : Int) : CallK Try.prog 37 [.pointer (some ⟨b, 0, none⟩), .int .i64 a, .int .i64 k, .int .u32 x] w0 (Blk b (.cells [Value.slice (some ⟨g, 0, none⟩) n c].toArray 77 (0, 0)) :: Own 30 1 (.slice (some ⟨g, 0, none⟩) n c) n (ints .u32 W) :: F) (Gives w0 fun v F2 => v = .int .i64 (eR n a k) ∧ F2 = Blk b (.cells [Value.slice (some ⟨g, 0, none⟩) n c].toArray 77 (0, 0)) :: Own 30 1 (.slice (some ⟨g, 0, none⟩) n c) n (ints .u32 (flW W n a k x)) :: F) := by
  by_cases h : inR n a k
  · refine (fill_ok w0 F b g n c W hW hc hn a k x a1 k1 h).gmono fun v F2 ⟨e1, e2⟩ => ⟨?_, ?_⟩
    · rw [e1] <;> simp only [flW, eR, if_pos h]
    · rw [e2] <;> simp only [flW, eR, if_pos h]
  · refine (fill_bad w0 F b g n c W hW hc hn x a k a0 a1 k0 k1 h).gmono fun v F2 ⟨e1, e2⟩ => ⟨?_, ?_⟩
    · rw [e1] <;> simp only [flW, eR, if_neg h]
    · rw [e2] <;> simp only [flW, eR, if_neg h]
theorem rread_any (w0 : World) (F : List Atom) (b g n c : Nat) (W : List Int) (hW : W.length = n) (hc : n ≤ c) (hn : n ≤ 1073741824) (a : Int) (a0 : -9223372036854775808 ≤ a) (a1 : a ≤ 9223372036854775807) : CallK Try.prog 50 [.pointer (some ⟨b, 0, none⟩), .int .i64 a] w0 (Blk b (.cells [Value.slice (some ⟨g, 0, none⟩) n c].toArray 104 (0, 0)) :: Own 30 1 (.slice (some ⟨g, 0, none⟩) n c) n (ints .u32 W) :: F) (Gives w0 fun v F2 => v = .tuple #[.int .u32 (rdV W n a), .int .i64 (eR n a 1)] ∧ F2 = Blk b (.cells [Value.slice (some ⟨g, 0, none⟩) n c].toArray 104 (0, 0)) :: Own 30 1 (.slice (some ⟨g, 0, none⟩) n c) n (ints .u32 W) :: F) := by
  by_cases h : inR n a 1
  · refine (rread_ok w0 F b g n c W hW hc hn a a1 h).gmono fun v F2 ⟨e1, e2⟩ => ⟨?_, ?_⟩
    · rw [e1] <;> simp only [rdV, eR, if_pos h]
    · rw [e2] <;> simp only [rdV, eR, if_pos h]
  · refine (rread_bad w0 F b g n c W hW hc hn a a0 a1 h).gmono fun v F2 ⟨e1, e2⟩ => ⟨?_, ?_⟩
    · rw [e1] <;> simp only [rdV, eR, if_neg h]
    · rw [e2] <;> simp only [rdV, eR, if_neg h]
theorem rwrite_any (w0 : World) (F : List Atom) (b g n c : Nat) (W : List Int) (hW : W.length = n) (hc : n ≤ c) (hn : n ≤ 1073741824) (a : Int) (a0 : -9223372036854775808 ≤ a) (a1 : a ≤ 9223372036854775807) (x : Int) : CallK Try.prog 51 [.pointer (some ⟨b, 0, none⟩), .int .i64 a, .int .u32 x] w0 (Blk b (.cells [Value.slice (some ⟨g, 0, none⟩) n c].toArray 104 (0, 0)) :: Own 30 1 (.slice (some ⟨g, 0, none⟩) n c) n (ints .u32 W) :: F) (Gives w0 fun v F2 => v = .int .i64 (eR n a 1) ∧ F2 = Blk b (.cells [Value.slice (some ⟨g, 0, none⟩) n c].toArray 104 (0, 0)) :: Own 30 1 (.slice (some ⟨g, 0, none⟩) n c) n (ints .u32 (wrW W n a x)) :: F) := by
  by_cases h : inR n a 1
  · refine (rwrite_ok w0 F b g n c W hW hc hn a x a1 h).gmono fun v F2 ⟨e1, e2⟩ => ⟨?_, ?_⟩
    · rw [e1] <;> simp only [wrW, eR, if_pos h]
    · rw [e2] <;> simp only [wrW, eR, if_pos h]
  · refine (rwrite_bad w0 F b g n c W hW hc hn x a a0 a1 h).gmono fun v F2 ⟨e1, e2⟩ => ⟨?_, ?_⟩
    · rw [e1] <;> simp only [wrW, eR, if_neg h]
    · rw [e2] <;> simp only [wrW, eR, if_neg h]
theorem rfill_any (w0 : World) (F : List Atom) (b g n c : Nat) (W : List Int) (hW : W.length = n) (hc : n ≤ c) (hn : n ≤ 1073741824) (a : Int) (a0 : -9223372036854775808 ≤ a) (a1 : a ≤ 9223372036854775807) (k : Int) (k0 : -9223372036854775808 ≤ k) (k1 : k ≤ 9223372036854775807) (x : Int) : CallK Try.prog 55 [.pointer (some ⟨b, 0, none⟩), .int .i64 a, .int .i64 k, .int .u32 x] w0 (Blk b (.cells [Value.slice (some ⟨g, 0, none⟩) n c].toArray 104 (0, 0)) :: Own 30 1 (.slice (some ⟨g, 0, none⟩) n c) n (ints .u32 W) :: F) (Gives w0 fun v F2 => v = .int .i64 (eR n a k) ∧ F2 = Blk b (.cells [Value.slice (some ⟨g, 0, none⟩) n c].toArray 104 (0, 0)) :: Own 30 1 (.slice (some ⟨g, 0, none⟩) n c) n (ints .u32 (flW W n a k x)) :: F) := by
  by_cases h : inR n a k
  · refine (rfill_ok w0 F b g n c W hW hc hn a k x a1 k1 h).gmono fun v F2 ⟨e1, e2⟩ => ⟨?_, ?_⟩
    · rw [e1] <;> simp only [flW, eR, if_pos h]
    · rw [e2] <;> simp only [flW, eR, if_pos h]
  · refine (rfill_bad w0 F b g n c W hW hc hn x a k a0 a1 k0 k1 h).gmono fun v F2 ⟨e1, e2⟩ => ⟨?_, ?_⟩
    · rw [e1] <;> simp only [flW, eR, if_neg h]
    · rw [e2] <;> simp only [flW, eR, if_neg h]
theorem move_any (w0 : World) (F : List Atom) (b g n c : Nat) (W : List Int) (hW : W.length = n) (hc : n ≤ c) (hn : n ≤ 1073741824) (a : Int) (a0 : -9223372036854775808 ≤ a) (a1 : a ≤ 9223372036854775807) (f : Int) (f0 : -9223372036854775808 ≤ f) (f1 : f ≤ 9223372036854775807) (k : Int) (k0 : -9223372036854775808 ≤ k) (k1 : k ≤ 9223372036854775807) : CallK Try.prog 38 [.pointer (some ⟨b, 0, none⟩), .int .i64 a, .int .i64 f, .int .i64 k] w0 (Blk b (.cells [Value.slice (some ⟨g, 0, none⟩) n c].toArray 77 (0, 0)) :: Own 30 1 (.slice (some ⟨g, 0, none⟩) n c) n (ints .u32 W) :: F) (Gives w0 fun v F2 => v = .int .i64 (eM n a f k) ∧ F2 = Blk b (.cells [Value.slice (some ⟨g, 0, none⟩) n c].toArray 77 (0, 0)) :: Own 30 1 (.slice (some ⟨g, 0, none⟩) n c) n (ints .u32 (mvW W n a f k)) :: F) := by
  by_cases h : inR n a k
  · by_cases q : inR n f k
    · refine (move_ok w0 F b g n c W hW hc hn a f k a0 a1 f0 f1 k0 k1 h q).gmono fun v F2 ⟨e1, e2⟩ => ⟨?_, ?_⟩
      · rw [e1] <;> simp only [eM, if_pos (And.intro h q)]
      · rw [e2] <;> simp only [mvW, part, if_pos (And.intro h q)]
    · refine (move_from w0 F b g n c W hW hc hn a f k a0 a1 f0 f1 k0 k1 h q).gmono fun v F2 ⟨e1, e2⟩ => ⟨?_, ?_⟩
      · rw [e1] <;> simp only [eM, if_neg (fun x : _ ∧ _ => q x.2)]
      · rw [e2] <;> simp only [mvW, if_neg (fun x : _ ∧ _ => q x.2)]
  · refine (move_bad w0 F b g n c W hW hc hn a f k a0 a1 f0 f1 k0 k1 h).gmono fun v F2 ⟨e1, e2⟩ => ⟨?_, ?_⟩
    · rw [e1] <;> simp only [eM, if_neg (fun x : _ ∧ _ => h x.1)]
    · rw [e2] <;> simp only [mvW, if_neg (fun x : _ ∧ _ => h x.1)]
theorem rmove_any (w0 : World) (F : List Atom) (b g n c : Nat) (W : List Int) (hW : W.length = n) (hc : n ≤ c) (hn : n ≤ 1073741824) (hU : W32s W) (a : Int) (a0 : -9223372036854775808 ≤ a) (a1 : a ≤ 9223372036854775807) (f : Int) (f0 : -9223372036854775808 ≤ f) (f1 : f ≤ 9223372036854775807) (k : Int) (k0 : -9223372036854775808 ≤ k) (k1 : k ≤ 9223372036854775807) : CallK Try.prog 56 [.pointer (some ⟨b, 0, none⟩), .int .i64 a, .int .i64 f, .int .i64 k] w0 (Blk b (.cells [Value.slice (some ⟨g, 0, none⟩) n c].toArray 104 (0, 0)) :: Own 30 1 (.slice (some ⟨g, 0, none⟩) n c) n (ints .u32 W) :: F) (Gives w0 fun v F2 => v = .int .i64 (eM n a f k) ∧ F2 = Blk b (.cells [Value.slice (some ⟨g, 0, none⟩) n c].toArray 104 (0, 0)) :: Own 30 1 (.slice (some ⟨g, 0, none⟩) n c) n (ints .u32 (mvW W n a f k)) :: F) := by
  by_cases h : inR n a k
  · by_cases q : inR n f k
    · refine (rmove_ok w0 F b g n c W hW hc hn hU a f k a0 a1 f0 f1 k0 k1 h q).gmono fun v F2 ⟨e1, e2⟩ => ⟨?_, ?_⟩
      · rw [e1] <;> simp only [eM, if_pos (And.intro h q)]
      · rw [e2] <;> simp only [mvW, if_pos (And.intro h q)]
    · refine (rmove_from w0 F b g n c W hW hc hn a f k a0 a1 f0 f1 k0 k1 h q).gmono fun v F2 ⟨e1, e2⟩ => ⟨?_, ?_⟩
      · rw [e1] <;> simp only [eM, if_neg (fun x : _ ∧ _ => q x.2)]
      · rw [e2] <;> simp only [mvW, if_neg (fun x : _ ∧ _ => q x.2)]
  · refine (rmove_bad w0 F b g n c W hW hc hn a f k a0 a1 f0 f1 k0 k1 h).gmono fun v F2 ⟨e1, e2⟩ => ⟨?_, ?_⟩
    · rw [e1] <;> simp only [eM, if_neg (fun x : _ ∧ _ => h x.1)]
    · rw [e2] <;> simp only [mvW, if_neg (fun x : _ ∧ _ => h x.1)]
theorem take_any (w0 : World) (F : List Atom) (b g n c : Nat) (W : List Int) (hW : W.length = n) (hc : n ≤ c) (hn : n ≤ 1073741824) (a : Int) (a0 : -9223372036854775808 ≤ a) (a1 : a ≤ 9223372036854775807) (k : Int) (k0 : -9223372036854775808 ≤ k) (k1 : k ≤ 9223372036854775807) : CallK Try.prog 49 [.pointer (some ⟨b, 0, none⟩), .int .i64 a, .int .i64 k] w0 (Blk b (.cells [Value.slice (some ⟨g, 0, none⟩) n c].toArray 77 (0, 0)) :: Own 30 1 (.slice (some ⟨g, 0, none⟩) n c) n (ints .u32 W) :: F) (Gives w0 fun v F2 => ∃ sa cq, v = .tuple #[.slice sa (tkN n a k) cq, .int .i64 (eR n a k)] ∧ (tkN n a k = 0 ∨ ∃ g2, sa = some ⟨g2, 0, none⟩) ∧ F2 = Own 30 1 (.slice sa (tkN n a k) cq) (tkN n a k) (ints .u32 (tkW W n a k)) :: Blk b (.cells [Value.slice (some ⟨g, 0, none⟩) n c].toArray 77 (0, 0)) :: Own 30 1 (.slice (some ⟨g, 0, none⟩) n c) n (ints .u32 W) :: F) := by
  unfold tkN tkW eR
  by_cases h : inR n a k
  · simp only [if_pos h]
    exact (take_ok w0 F b g n c W hW hc hn a k a1 k1 h).gmono fun v F2 ⟨q, e1, e2⟩ => ⟨_, _, e1, .inr ⟨q, rfl⟩, e2⟩
  · simp only [if_neg h]
    exact (take_bad w0 F b g n c W hW hc hn a k a0 a1 k0 k1 h).mono fun en F2 hg => by
      refine gives_nil 30 hg ?_
      exact ⟨none, 0, rfl, by simp, rfl⟩
theorem rtake_any (w0 : World) (F : List Atom) (b g n c : Nat) (W : List Int) (hW : W.length = n) (hc : n ≤ c) (hn : n ≤ 1073741824) (a : Int) (a0 : -9223372036854775808 ≤ a) (a1 : a ≤ 9223372036854775807) (k : Int) (k0 : -9223372036854775808 ≤ k) (k1 : k ≤ 9223372036854775807) : CallK Try.prog 52 [.pointer (some ⟨b, 0, none⟩), .int .i64 a, .int .i64 k] w0 (Blk b (.cells [Value.slice (some ⟨g, 0, none⟩) n c].toArray 104 (0, 0)) :: Own 30 1 (.slice (some ⟨g, 0, none⟩) n c) n (ints .u32 W) :: F) (Gives w0 fun v F2 => ∃ sa cq, v = .tuple #[.slice sa (tkN n a k) cq, .int .i64 (eR n a k)] ∧ (tkN n a k = 0 ∨ ∃ g2, sa = some ⟨g2, 0, none⟩) ∧ F2 = Own 30 1 (.slice sa (tkN n a k) cq) (tkN n a k) (ints .u32 (tkW W n a k)) :: Blk b (.cells [Value.slice (some ⟨g, 0, none⟩) n c].toArray 104 (0, 0)) :: Own 30 1 (.slice (some ⟨g, 0, none⟩) n c) n (ints .u32 W) :: F) := by
  unfold tkN tkW eR
  by_cases h : inR n a k
  · simp only [if_pos h]
    exact (rtake_ok w0 F b g n c W hW hc hn a k a1 k1 h).gmono fun v F2 ⟨sa, cq, e1, e3, e2⟩ => ⟨sa, cq, e1, e3, by rw [e2, show (((k.toNat : Nat) : Int)) = k by unfold inR at h; omega]⟩
  · simp only [if_neg h]
    exact (rtake_bad w0 F b g n c W hW hc hn a k a0 a1 k0 k1 h).mono fun en F2 hg => by
      refine gives_nil 30 hg ?_
      exact ⟨none, 0, rfl, by simp, rfl⟩
theorem lay_any (w0 : World) (F : List Atom) (b g n c : Nat) (W : List Int) (hW : W.length = n) (hc : n ≤ c) (hn : n ≤ 1073741824) (a : Int) (a0 : -9223372036854775808 ≤ a) (a1 : a ≤ 9223372036854775807) (Y : List Int) (q : Nat) (hY : Y.length = q) (hq : q ≤ 2147483647) (b2 o2 c2 : Nat) (hr : RowAt w0 F b2 o2 (ints .u32 Y)) : CallK Try.prog 36 [.pointer (some ⟨b, 0, none⟩), .int .i64 a, .slice (some ⟨b2, o2, none⟩) q c2] w0 (Blk b (.cells [Value.slice (some ⟨g, 0, none⟩) n c].toArray 77 (0, 0)) :: Own 30 1 (.slice (some ⟨g, 0, none⟩) n c) n (ints .u32 W) :: F) (Gives w0 fun v F2 => v = .int .i64 (eR n a q) ∧ F2 = Blk b (.cells [Value.slice (some ⟨g, 0, none⟩) n c].toArray 77 (0, 0)) :: Own 30 1 (.slice (some ⟨g, 0, none⟩) n c) n (ints .u32 (lyW W Y n a)) :: F) := by
  subst hY
  by_cases h : inR n a (Y.length : Nat)
  · refine (lay_ok w0 F b g n c W hW hc hn a a1 b2 o2 Y.length c2 Y rfl (by unfold inR at h; omega) hr h).gmono fun v F2 ⟨e1, e2⟩ => ⟨?_, ?_⟩
    · rw [e1] <;> simp only [eR, if_pos h]
    · rw [e2] <;> simp only [lyW, if_pos h]
  · refine (lay_bad w0 F b g n c W hW hc hn a a0 a1 (some ⟨b2, o2, none⟩) Y.length c2 (by omega) h).gmono fun v F2 ⟨e1, e2⟩ => ⟨?_, ?_⟩
    · rw [e1] <;> simp only [eR, if_neg h]
    · rw [e2] <;> simp only [lyW, if_neg h]
theorem rlay_any (w0 : World) (F : List Atom) (b g n c : Nat) (W : List Int) (hW : W.length = n) (hc : n ≤ c) (hn : n ≤ 1073741824) (a : Int) (a0 : -9223372036854775808 ≤ a) (a1 : a ≤ 9223372036854775807) (Y : List Int) (q : Nat) (hY : Y.length = q) (hq : q ≤ 2147483647) (sa : Option Addr) (c2 : Nat) (hI : IR w0 F .u32 sa q Y) (hYU : W32s Y) : CallK Try.prog 54 [.pointer (some ⟨b, 0, none⟩), .int .i64 a, .slice sa q c2] w0 (Blk b (.cells [Value.slice (some ⟨g, 0, none⟩) n c].toArray 104 (0, 0)) :: Own 30 1 (.slice (some ⟨g, 0, none⟩) n c) n (ints .u32 W) :: F) (Gives w0 fun v F2 => v = .int .i64 (eR n a q) ∧ F2 = Blk b (.cells [Value.slice (some ⟨g, 0, none⟩) n c].toArray 104 (0, 0)) :: Own 30 1 (.slice (some ⟨g, 0, none⟩) n c) n (ints .u32 (lyW W Y n a)) :: F) := by
  subst hY
  by_cases h : inR n a (Y.length : Nat)
  · refine (rlay_ok w0 F b g n c W hW hc hn a a1 sa Y.length c2 Y hI hYU (by unfold inR at h; omega) h).gmono fun v F2 ⟨e1, e2⟩ => ⟨?_, ?_⟩
    · rw [e1] <;> simp only [eR, if_pos h]
    · rw [e2] <;> simp only [lyW, if_pos h]
  · refine (rlay_bad w0 F b g n c W hW hc hn a a0 a1 sa Y.length c2 (by omega) h).gmono fun v F2 ⟨e1, e2⟩ => ⟨?_, ?_⟩
    · rw [e1] <;> simp only [eR, if_neg h]
    · rw [e2] <;> simp only [lyW, if_neg h]
end Go.Proofs.Ytlgcghhjgcdigaa.Fw
