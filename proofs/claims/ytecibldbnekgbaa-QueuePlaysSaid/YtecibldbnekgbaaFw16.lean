import Derived.Test.YtecibldbnekgbaaFw15
namespace Go.Proofs.Ytecibldbnekgbaa.Fw
open Go
set_option linter.unusedVariables false
set_option linter.unusedSimpArgs false

/- Calls walked in place, and loops whose unchanged slots are carried along. -/
theorem Sub.app {e e1 e2 : Env} (h1 : Sub e e1) (h2 : Sub e e2) : Sub e (e1 ++ e2) := by
  induction h1 with
  | nil => exact h2
  | cons h _ ih => exact .cons h ih
section
variable {P : Program} {f : FuncId} {w0 : World} {K : Post} {n : Nat} {d : List Deferred} {ops : Array Oper} {rest : List Oper} {k : List Item} {e : Env} {F : List Atom}
variable {ty : TypeId} {pos : String} {aft : Array Edge}
theorem l_inl {t g} {args : Array Operand} {tys : Array TypeId} {vs : List Value} (ht : Nat.ble (t + 1) n = true) (hcall : ∀ args w, (callFunc g args).run P w = .ok (.enter g args) w) (hx : evL e args.toList = some vs)
    (hc : CallK P g vs w0 F (fun en F' => ∃ v, en = .returned v ∧ GL P f w0 K n d ops rest k ((t, v) :: e) F')) :
    GL P f w0 K n d ops (.mk (some t) (.call ⟨.value (.func g), args, tys⟩) ty pos aft none :: rest) k e F := l_callk ht hcall hx hc fun _ _ h => h
theorem l_inl0 {g} {args : Array Operand} {tys : Array TypeId} {vs : List Value} (hcall : ∀ args w, (callFunc g args).run P w = .ok (.enter g args) w) (hx : evL e args.toList = some vs)
    (hc : CallK P g vs w0 F (fun en F' => (∃ v, en = .returned v) ∧ GL P f w0 K n d ops rest k e F')) :
    GL P f w0 K n d ops (.mk none (.call ⟨.value (.func g), args, tys⟩) ty pos aft none :: rest) k e F := l_callk0 hcall hx hc fun _ _ h => h
/-- A loop: what it does not change is carried along. -/
theorem g_loopk {X : Type} {c : Code} (B : Env) (hB : Sub e B) (I : X → Prop) (μ : X → Nat) (E : X → Env) (H : X → List Atom) (x0 : X) (h0 : I x0) (hE : Sub e (E x0)) (hF : ∀ w, Holds w0 F w → Holds w0 (H x0) w)
    (round : ∀ x, I x → (∀ y, I y → μ y < μ x → G P f w0 K n d (.inLoop c :: k) (E y ++ B) (H y)) → G P f w0 K n d (.code c :: .inLoop c :: k) (E x ++ B) (H x)) : G P f w0 K n d (.code (.loop c) :: k) e F :=
  g_loop I μ (fun x => E x ++ B) H x0 h0 (hE.app hB) hF round
/-- Likewise, and nothing in memory is changed. -/
theorem g_loopc {X : Type} {c : Code} (B : Env) (hB : Sub e B) (I : X → Prop) (μ : X → Nat) (E : X → Env) (x0 : X) (h0 : I x0) (hE : Sub e (E x0))
    (round : ∀ x, I x → (∀ y, I y → μ y < μ x → G P f w0 K n d (.inLoop c :: k) (E y ++ B) F) → G P f w0 K n d (.code c :: .inLoop c :: k) (E x ++ B) F) : G P f w0 K n d (.code (.loop c) :: k) e F :=
  g_loop I μ (fun x => E x ++ B) (fun _ => F) x0 h0 (hE.app hB) (fun _ h => h) round
end
theorem word_any {w0 : World} {F0 F : List Atom} {kd : IntKind} {b o : Nat} {W : List Int} (h : RowAt w0 F0 b o (ints kd W)) [e : Ext F0 F] {j : Nat} (hj : j < W.length) : CellAt w0 F b (o + j * 1) (.int kd (W.getD j 0)) := word_row h.ex hj
end Go.Proofs.Ytecibldbnekgbaa.Fw
