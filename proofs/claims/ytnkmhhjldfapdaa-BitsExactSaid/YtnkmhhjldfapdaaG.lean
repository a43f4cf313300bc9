import Derived.Test.YtnkmhhjldfapdaaFixed
namespace Go.Proofs.Ytnkmhhjldfapdaa.Fw
open Go Go.Proofs
set_option linter.unusedVariables false
set_option linter.unusedSimpArgs false
set_option maxRecDepth 10000

def FldG (x fr wd r e : Int) : Prop := (¬ (0 ≤ fr ∧ fr < 32 ∧ 1 ≤ wd ∧ wd ≤ 32 - fr) ∧ r = 0 ∧ e = 10) ∨ ((0 ≤ fr ∧ fr < 32 ∧ 1 ≤ wd ∧ wd ≤ 32 - fr) ∧ r = fieldV x fr wd ∧ e = 0)
def PutG (x fr wd v r e : Int) : Prop := (¬ (0 ≤ fr ∧ fr < 32 ∧ 1 ≤ wd ∧ wd ≤ 32 - fr) ∧ r = 0 ∧ e = 10) ∨ ((0 ≤ fr ∧ fr < 32 ∧ 1 ≤ wd ∧ wd ≤ 32 - fr) ∧ 2 ^ wd.toNat ≤ v ∧ r = 0 ∧ e = 11) ∨ ((0 ≤ fr ∧ fr < 32 ∧ 1 ≤ wd ∧ wd ≤ 32 - fr) ∧ v < 2 ^ wd.toNat ∧ r = putV x fr wd v ∧ e = 0)
def SgnG (v wd r e : Int) : Prop := (¬ (1 ≤ wd ∧ wd ≤ 32) ∧ r = 0 ∧ e = 10) ∨ ((1 ≤ wd ∧ wd ≤ 32) ∧ 2 ^ wd.toNat ≤ v ∧ r = 0 ∧ e = 11) ∨ ((1 ≤ wd ∧ wd ≤ 32) ∧ v < 2 ^ wd.toNat ∧ r = signedV v wd ∧ e = 0)
def UnsG (n wd r e : Int) : Prop := (¬ (1 ≤ wd ∧ wd ≤ 32) ∧ r = 0 ∧ e = 10) ∨ ((1 ≤ wd ∧ wd ≤ 32) ∧ (n < -(2 ^ (wd - 1).toNat) ∨ 2 ^ (wd - 1).toNat ≤ n) ∧ r = 0 ∧ e = 11) ∨ ((1 ≤ wd ∧ wd ≤ 32) ∧ (-(2 ^ (wd - 1).toNat) ≤ n ∧ n < 2 ^ (wd - 1).toNat) ∧ r = unsignedV n wd ∧ e = 0)
theorem gives_imp {w0 : World} {R R2 : Value → List Atom → Prop} (h : ∀ v F, R v F → R2 v F) {en F} (hg : Gives w0 R en F) : Gives w0 R2 en F := by
  obtain ⟨v, F2, he, hr, hp⟩ := hg
  exact ⟨v, F2, he, h _ _ hr, hp⟩
theorem callk_imp {P : Program} {f : FuncId} {args : List Value} {w0 : World} {F : List Atom} {R R2 : Value → List Atom → Prop} (hc : CallK P f args w0 F (Gives w0 R)) (h : ∀ v F, R v F → R2 v F) : CallK P f args w0 F (Gives w0 R2) := fun w hw => (hc w hw).mono fun e w' ⟨F', hg, hw'⟩ => ⟨F', gives_imp h hg, hw'⟩
theorem field_g (w0 : World) (F : List Atom) (x : Int) (x0 : 0 ≤ x) (x1 : x ≤ 4294967295) (fr : Int) (fr0 : -9223372036854775808 ≤ fr) (fr1 : fr ≤ 9223372036854775807) (wd : Int) (wd0 : -9223372036854775808 ≤ wd) (wd1 : wd ≤ 9223372036854775807) : CallK Try.prog 11 [.int .u32 x, .int .i64 fr, .int .i64 wd] w0 F (Gives w0 fun v F2 => ∃ r e, v = .tuple #[.int .u32 r, .int .i64 e] ∧ F2 = F ∧ FldG x fr wd r e) := by
  by_cases h : There fr wd
  · exact callk_imp (field_in w0 F x x0 x1 fr fr0 fr1 wd wd0 wd1 h) fun v F ⟨h1, h2⟩ => ⟨_, _, h1, h2, .inr ⟨h, rfl, rfl⟩⟩
  · exact callk_imp (field_out w0 F x x0 x1 fr fr0 fr1 wd wd0 wd1 h) fun v F ⟨h1, h2⟩ => ⟨_, _, h1, h2, .inl ⟨h, rfl, rfl⟩⟩
theorem put_g (w0 : World) (F : List Atom) (x : Int) (x0 : 0 ≤ x) (x1 : x ≤ 4294967295) (fr : Int) (fr0 : -9223372036854775808 ≤ fr) (fr1 : fr ≤ 9223372036854775807) (wd : Int) (wd0 : -9223372036854775808 ≤ wd) (wd1 : wd ≤ 9223372036854775807) (v : Int) (v0 : 0 ≤ v) (v1 : v ≤ 4294967295) : CallK Try.prog 10 [.int .u32 x, .int .i64 fr, .int .i64 wd, .int .u32 v] w0 F (Gives w0 fun v_ F2 => ∃ r e, v_ = .tuple #[.int .u32 r, .int .i64 e] ∧ F2 = F ∧ PutG x fr wd v r e) := by
  by_cases h : There fr wd
  · by_cases hv : v < 2 ^ wd.toNat
    · exact callk_imp (put_in w0 F x x0 x1 fr fr0 fr1 wd wd0 wd1 v v0 v1 h hv) fun v F ⟨h1, h2⟩ => ⟨_, _, h1, h2, .inr (.inr ⟨h, hv, rfl, rfl⟩)⟩
    · exact callk_imp (put_big w0 F x x0 x1 fr fr0 fr1 wd wd0 wd1 v v0 v1 h (Int.not_lt.1 hv)) fun v F ⟨h1, h2⟩ => ⟨_, _, h1, h2, .inr (.inl ⟨h, Int.not_lt.1 hv, rfl, rfl⟩)⟩
  · exact callk_imp (put_out w0 F x x0 x1 fr fr0 fr1 wd wd0 wd1 v v0 v1 h) fun v F ⟨h1, h2⟩ => ⟨_, _, h1, h2, .inl ⟨h, rfl, rfl⟩⟩
theorem signed_g (w0 : World) (F : List Atom) (v : Int) (v0 : 0 ≤ v) (v1 : v ≤ 4294967295) (wd : Int) (wd0 : -9223372036854775808 ≤ wd) (wd1 : wd ≤ 9223372036854775807) : CallK Try.prog 13 [.int .u32 v, .int .i64 wd] w0 F (Gives w0 fun v_ F2 => ∃ r e, v_ = .tuple #[.int .i64 r, .int .i64 e] ∧ F2 = F ∧ SgnG v wd r e) := by
  by_cases h : 1 ≤ wd ∧ wd ≤ 32
  · by_cases hv : v < 2 ^ wd.toNat
    · exact callk_imp (signed_in w0 F v v0 v1 wd wd0 wd1 h hv) fun v F ⟨h1, h2⟩ => ⟨_, _, h1, h2, .inr (.inr ⟨h, hv, rfl, rfl⟩)⟩
    · exact callk_imp (signed_big w0 F v v0 v1 wd wd0 wd1 h (Int.not_lt.1 hv)) fun v F ⟨h1, h2⟩ => ⟨_, _, h1, h2, .inr (.inl ⟨h, Int.not_lt.1 hv, rfl, rfl⟩)⟩
  · exact callk_imp (signed_out w0 F v v0 v1 wd wd0 wd1 h) fun v F ⟨h1, h2⟩ => ⟨_, _, h1, h2, .inl ⟨h, rfl, rfl⟩⟩
theorem unsigned_g (w0 : World) (F : List Atom) (n : Int) (n0 : -9223372036854775808 ≤ n) (n1 : n ≤ 9223372036854775807) (wd : Int) (wd0 : -9223372036854775808 ≤ wd) (wd1 : wd ≤ 9223372036854775807) : CallK Try.prog 12 [.int .i64 n, .int .i64 wd] w0 F (Gives w0 fun v_ F2 => ∃ r e, v_ = .tuple #[.int .u32 r, .int .i64 e] ∧ F2 = F ∧ UnsG n wd r e) := by
  by_cases h : 1 ≤ wd ∧ wd ≤ 32
  · by_cases hv : -(2 ^ (wd - 1).toNat) ≤ n ∧ n < 2 ^ (wd - 1).toNat
    · exact callk_imp (unsigned_in w0 F n n0 n1 wd wd0 wd1 h hv.1 hv.2) fun v F ⟨h1, h2⟩ => ⟨_, _, h1, h2, .inr (.inr ⟨h, hv, rfl, rfl⟩)⟩
    · have hv2 : n < -(2 ^ (wd - 1).toNat) ∨ 2 ^ (wd - 1).toNat ≤ n := by
        rcases Classical.not_and_iff_not_or_not.1 hv with h | h
        · exact .inl (Int.not_le.1 h)
        · exact .inr (Int.not_lt.1 h)
      exact callk_imp (unsigned_big w0 F n n0 n1 wd wd0 wd1 h hv2) fun v F ⟨h1, h2⟩ => ⟨_, _, h1, h2, .inr (.inl ⟨h, hv2, rfl, rfl⟩)⟩
  · exact callk_imp (unsigned_out w0 F n n0 n1 wd wd0 wd1 h) fun v F ⟨h1, h2⟩ => ⟨_, _, h1, h2, .inl ⟨h, rfl, rfl⟩⟩
theorem UnsG.bd {n wd r e : Int} (h : UnsG n wd r e) : 0 ≤ r ∧ r ≤ 4294967295 := by
  rcases h with ⟨_, rfl, _⟩ | ⟨_, _, rfl, _⟩ | ⟨h1, _, rfl, _⟩
  · decide
  · decide
  · have := @unsigned_bd n wd; have := pow_bd (k := wd.toNat) (by omega); omega
theorem FldG.bd {x fr wd r e : Int} (h : FldG x fr wd r e) : 0 ≤ r ∧ r ≤ 4294967295 := by
  rcases h with ⟨_, rfl, _⟩ | ⟨h1, rfl, _⟩
  · decide
  · have := @field_bd x fr wd; have := pow_bd (k := wd.toNat) (by omega); omega
theorem PutG.bd {x fr wd v r e : Int} (h : PutG x fr wd v r e) : 0 ≤ r ∧ r ≤ 4294967295 := by
  rcases h with ⟨_, rfl, _⟩ | ⟨_, _, rfl, _⟩ | ⟨_, _, rfl, _⟩
  · decide
  · decide
  · exact put_nn _ _ _ _
end Go.Proofs.Ytnkmhhjldfapdaa.Fw
