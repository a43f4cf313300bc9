import Derived.Test.YtecibldbnekgbaaFw6
import Derived.KernelRfl
namespace Go.Proofs.Ytecibldbnekgbaa.Fw
open Go
set_option linter.unusedVariables false
set_option linter.unusedSimpArgs false

theorem w_i64 {x : Int} (h1 : -9223372036854775808 ≤ x) (h2 : x ≤ 9223372036854775807) : IntKind.i64.wrap x = x := by rw [IntKind.wrap_i64]; omega
theorem w_u32 {x : Int} (h1 : 0 ≤ x) (h2 : x ≤ 4294967295) : IntKind.u32.wrap x = x := by simp [IntKind.wrap, IntKind.bits, IntKind.signed]; omega
theorem w_u8 {x : Int} (h1 : 0 ≤ x) (h2 : x ≤ 255) : IntKind.u8.wrap x = x := by simp [IntKind.wrap, IntKind.bits, IntKind.signed]; omega
theorem w_u64 {x : Int} (h1 : 0 ≤ x) (h2 : x ≤ 18446744073709551615) : IntKind.u64.wrap x = x := by simp [IntKind.wrap, IntKind.bits, IntKind.signed]; omega
theorem wr_u32 (x : Int) : IntKind.u32.wrap x = x % 4294967296 := by simp [IntKind.wrap, IntKind.bits, IntKind.signed]
theorem wr_u64 (x : Int) : IntKind.u64.wrap x = x % 18446744073709551616 := by simp [IntKind.wrap, IntKind.bits, IntKind.signed]
theorem wr_u8 (x : Int) : IntKind.u8.wrap x = x % 256 := by simp [IntKind.wrap, IntKind.bits, IntKind.signed]

/-- Parts taken out of a list of parts, in another order; the others are let go. -/
inductive SP : List Atom → List Atom → Prop
  | refl {F} : SP F F
  | cons {F A F1 F'} (i : Nat) : frontO F i = some (A, F1) → SP F1 F' → SP F (A :: F')
  | drop {F A F1 F'} (i : Nat) : frontO F i = some (A, F1) → SP F1 F' → SP F F'
theorem SP.holdsG {w0 w F F'} (h : SP F F') : ∀ G : List Atom, Holds w0 (G ++ F) w → Holds w0 (G ++ F') w := by
  induction h with
  | refl => exact fun _ h => h
  | cons i hi _ ih =>
    rename_i F A F1 F' _
    intro G hw
    have h1 : Holds w0 ((G ++ [A]) ++ F1) w := hw.perm (by simpa using (frontO_perm hi).append_left G)
    have := ih (G ++ [A]) h1
    simpa using this
  | drop i hi _ ih =>
    rename_i F A F1 F' _
    intro G hw
    have h1 : Holds w0 (G ++ (A :: F1)) w := hw.perm ((frontO_perm hi).append_left G)
    exact ih G (h1.sub (List.Sublist.append_left (List.sublist_cons_self A F1) G))
theorem SP.holds {F F' w0 w} (h : SP F F') (hw : Holds w0 F w) : Holds w0 F' w := h.holdsG [] hw

/-- A return, and what is told then. -/
def Gives (w0 : World) (R : Value → List Atom → Prop) : Post := fun en F => ∃ v F', en = .returned v ∧ R v F' ∧ ∀ w, Holds w0 F w → Holds w0 F' w
theorem Gives.mk {w0 R v F F'} (h : R v F') (hs : SP F F') : Gives w0 R (.returned v) F := ⟨v, F', rfl, h, fun w hw => hs.holds hw⟩
theorem CallK.gmono {P g args w0 F} {R R' : Value → List Atom → Prop} (h : CallK P g args w0 F (Gives w0 R)) (hr : ∀ v F', R v F' → R' v F') : CallK P g args w0 F (Gives w0 R') :=
  h.mono fun en F' ⟨v, F2, h1, h2, h3⟩ => ⟨v, F2, h1, hr _ _ h2, h3⟩
theorem CallK.sp {P g args w0 F F2} {K : Post} (h : CallK P g args w0 F2 K) (hs : SP F F2) : CallK P g args w0 F K := h.heap fun w hw => hs.holds hw

section
variable {P : Program} {f : FuncId} {w0 : World} {K : Post} {n : Nat} {d : List Deferred} {ops : Array Oper} {rest : List Oper} {k : List Item} {e : Env} {F : List Atom}
variable {ty : TypeId} {pos : String} {aft : Array Edge}
theorem l_call {t g} {args : Array Operand} {tys : Array TypeId} {vs : List Value} {R : Value → List Atom → Prop} (ht : Nat.ble (t + 1) n = true) (hcall : ∀ args w, (callFunc g args).run P w = .ok (.enter g args) w) (hx : evL e args.toList = some vs)
    (hc : CallK P g vs w0 F (Gives w0 R)) (hk : ∀ v F', R v F' → GL P f w0 K n d ops rest k ((t, v) :: e) F') :
    GL P f w0 K n d ops (.mk (some t) (.call ⟨.value (.func g), args, tys⟩) ty pos aft none :: rest) k e F :=
  l_callk ht hcall hx hc fun en F' ⟨v, F2, h1, h2, h3⟩ => ⟨v, h1, gl_heap h3 (hk v F2 h2)⟩
theorem l_call0 {g} {args : Array Operand} {tys : Array TypeId} {vs : List Value} {R : Value → List Atom → Prop} (hcall : ∀ args w, (callFunc g args).run P w = .ok (.enter g args) w) (hx : evL e args.toList = some vs)
    (hc : CallK P g vs w0 F (Gives w0 R)) (hk : ∀ v F', R v F' → GL P f w0 K n d ops rest k e F') :
    GL P f w0 K n d ops (.mk none (.call ⟨.value (.func g), args, tys⟩) ty pos aft none :: rest) k e F :=
  l_callk0 hcall hx hc fun en F' ⟨v, F2, h1, h2, h3⟩ => ⟨⟨v, h1⟩, gl_heap h3 (hk v F2 h2)⟩
theorem g_sp {F'} (hs : SP F F') (h : G P f w0 K n d k e F') : G P f w0 K n d k e F := g_heap (fun w hw => hs.holds hw) h
theorem l_sp {F'} (hs : SP F F') (h : GL P f w0 K n d ops rest k e F') : GL P f w0 K n d ops rest k e F := gl_heap (fun w hw => hs.holds hw) h
/-- Once more round the loop. -/
theorem g_again {e' : Env} {F' : List Atom} (h : G P f w0 K n d k e' F') (hs : Sub e e') (hF : SP F F') : G P f w0 K n d k e F := g_sub hs (g_sp hF h)
/-- Facts out of what is told. -/
theorem g_fact {φ : Prop} (hφ : ∀ w, Holds w0 F w → φ) (h : φ → G P f w0 K n d k e F) : G P f w0 K n d k e F := fun a w ha hw => h (hφ w hw) a w ha hw
theorem l_fact {φ : Prop} (hφ : ∀ w, Holds w0 F w → φ) (h : φ → GL P f w0 K n d ops rest k e F) : GL P f w0 K n d ops rest k e F := fun a w ha hw => h (hφ w hw) a w ha hw
theorem c_fact {g args} {φ : Prop} (hφ : ∀ w, Holds w0 F w → φ) (h : φ → CallK P g args w0 F K) : CallK P g args w0 F K := fun w hw => h (hφ w hw) w hw
theorem l_own_nil (E sz : Nat) (h : GL P f w0 K n d ops rest k e (Own E sz (.slice none 0 0) 0 [] :: F)) : GL P f w0 K n d ops rest k e F := gl_heap (fun w hw => hw.own_nil E sz) h
theorem g_own_nil (E sz : Nat) (h : G P f w0 K n d k e (Own E sz (.slice none 0 0) 0 [] :: F)) : G P f w0 K n d k e F := g_heap (fun w hw => hw.own_nil E sz) h
/-- A row of the call's own, laid open: nil, or in a block. -/
theorem own_cases {E sz v m xs} (hm : Own E sz v m xs ∈ F) (w : World) (hw : Holds w0 F w) : xs.length = m * sz ∧ m ≤ maxLen ∧ ((v = .slice none 0 0 ∧ m = 0) ∨ ∃ g cap, v = .slice (some ⟨g, 0, none⟩) m cap ∧ m ≤ cap) := by
  refine ⟨Own.len hw hm, Own.lt hw hm, ?_⟩
  rcases (hw.ok _ hm).2 with h | ⟨g, cap, cur, hv, _, hc, _⟩
  · exact .inl h
  · exact .inr ⟨g, cap, hv, hc⟩
theorem Reads.of_own {E sz v m xs} (hm : Own E sz v m xs ∈ F) (hl : xs.length = m * sz) (hv : (v = .slice none 0 0 ∧ m = 0) ∨ ∃ g cap, v = .slice (some ⟨g, 0, none⟩) m cap ∧ m ≤ cap) : Reads w0 F v m sz xs :=
  .own hl (hv.imp id fun ⟨g, cap, h, _⟩ => ⟨g, cap, h⟩) hm
end
end Go.Proofs.Ytecibldbnekgbaa.Fw
